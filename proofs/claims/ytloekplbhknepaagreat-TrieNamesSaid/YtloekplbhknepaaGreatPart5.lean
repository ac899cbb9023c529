import Derived.Test.YtloekplbhknepaaGreatRows
import Derived.OpenShut
import Derived.Handed
import Derived.JoinedOf
import Derived.Test.YtloekplbhknepaaGreatPart4
import Derived.Test.YtloekplbhknepaaGreatKit
import Derived.Test.YtloekplbhknepaaGreatPart1
import Derived.Test.YtloekplbhknepaaGreatPart3
/- Lemmas and walks for the claims of this seat (own work): Cp0 Ws0 Wr0 Wq0 Dn0 Dn1 Tk0 Tk1 Tk2 Tk3 Tk4 Tk5 Tk6 Td0 Na0 Nk0 Na1 Na2. -/
namespace Sim
open Go Go.Vc
theorem wr_int1 : ∀ (l : List Int) (k : Nat) (x : Int), k < l.length → wr [Value.int .i64 x] k (intsV l) = some (intsV (l.set k x))
  | [], k, x, h => by simp at h
  | y :: l, 0, x, _ => rfl
  | y :: l, k + 1, x, h => by
    have ih := wr_int1 l k x (by simpa using h)
    simp only [intsV, List.map_cons, wr, List.set_cons_succ] at ih ⊢
    rw [ih]
def ddN (l : List Int) : Nat → List Int
  | 0 => []
  | 1 => l.take 1
  | m + 2 => if l[m + 1]? = l[m]? then ddN l (m + 1) else ddN l (m + 1) ++ (l[m + 1]?).toList
theorem ddN_le (l : List Int) : ∀ m, (ddN l m).length ≤ m
  | 0 => Nat.le_refl _
  | 1 => by simp [ddN]; omega
  | m + 2 => by
    have := ddN_le l (m + 1)
    simp only [ddN]
    split
    · omega
    · simp only [List.length_append]
      have : ((l[m + 1]?).toList).length ≤ 1 := by cases l[m + 1]? <;> simp
      omega
theorem ddN_mem (l : List Int) (x : Int) : ∀ m, x ∈ ddN l m ↔ x ∈ l.take m
  | 0 => by simp [ddN]
  | 1 => by simp [ddN]
  | m + 2 => by
    have ih := ddN_mem l x (m + 1)
    simp only [ddN]
    rw [List.take_add_one (i := m + 1), List.mem_append, ← ih]
    split
    · rename_i h
      rw [h]
      constructor
      · exact .inl
      · rintro (h2 | h2)
        · exact h2
        · rw [ih, List.take_add_one, List.mem_append]; exact .inr h2
    · rw [List.mem_append]
theorem ddN_small (l : List Int) (h : l.length < 2) : ddN l l.length = l := by
  match l, h with
  | [], _ => rfl
  | [a], _ => rfl
  | a :: b :: l, h => exact absurd h (by simp)
end Sim
namespace Go.Proofs.YtloekplbhknepaaGreat
open Go.Vc Sim
set_option maxHeartbeats 4000000
theorem compact_spec (w0 : World) (a : Option Addr) (cap : Nat) (l : List Int) (hlen : l.length ≤ 1099511627776) :
    FnE PP w0 [] 84 [.slice a l.length cap] [SlA 28 1 a l.length cap (intsV l)] (.slice a (ddN l l.length).length cap) [SlA 28 1 a (ddN l l.length).length cap (intsV (ddN l l.length))] := by
  refine fn_of_run en84 fn84 rfl rfl rfl ?_
  by_cases h2 : l.length < 2
  · repeat' (first | refine zck ?_ | refine zcp (by kernel_rfl) ?_ | (refine zap rfl ?_; first | refine zan rfl ?_ | refine zan rfl ?_ | refine zce rfl ?_ | refine zbg rfl rfl (by omega) ?_) | refine zch ?_ | refine zci rfl ?_)
    rw [ddN_small l h2]
    exact ret_tmp1 rfl ⟨rfl, rfl⟩
  refine run_sl_cases 0 rfl (fun _ h _ _ => absurd h (by omega)) ?_
  intro bb q1 q2 q3
  subst q1
  repeat (first | refine zck ?_ | refine zcl ?_ | refine zcm ?_ | refine zcn ?_)
  first | refine zcp (by kernel_rfl) ?_ | refine zcq PP_mixed (by kernel_rfl) (by kernel_rfl) ?_
  repeat' (refine zap rfl ?_; first | refine zan rfl ?_)
  all_goals refine zch ?_
  all_goals repeat (first | refine zck ?_ | refine zcl ?_ | refine zcm ?_ | refine zcn ?_)
  repeat (first | refine zck ?_ | refine zcl ?_ | refine zcm ?_ | refine zcn ?_)
  first | refine zcp (by kernel_rfl) ?_ | refine zcq PP_mixed (by kernel_rfl) (by kernel_rfl) ?_
  repeat' (refine zap rfl ?_; first | refine zan rfl ?_ | refine zce rfl ?_ | refine zbh rfl rfl (by omega) ?_)
  all_goals refine zch ?_
  all_goals repeat (first | refine zck ?_ | refine zcl ?_ | refine zcm ?_ | refine zcn ?_)
  refine zcj rfl ?_
  repeat (first | refine zck ?_ | refine zcl ?_ | refine zcm ?_ | refine zcn ?_)
  first | refine zcp (by kernel_rfl) ?_ | refine zcq PP_mixed (by kernel_rfl) (by kernel_rfl) ?_
  repeat' (refine zap rfl ?_; first | refine zan rfl ?_)
  all_goals refine zch ?_
  all_goals repeat (first | refine zck ?_ | refine zcl ?_ | refine zcm ?_ | refine zcn ?_)
  refine run_loop (S := Nat) (fun k => [(0, .slice (some ⟨bb, 0, none⟩) l.length cap), (3, .int .i64 (k : Int))])
    (fun k Γ => Γ = [SlA 28 1 (some ⟨bb, 0, none⟩) l.length cap (intsV l)] ∧ 1 ≤ k ∧ k ≤ l.length ∧ ddN l k = l.take k) (fun k => l.length - k) 1 ⟨rfl, rfl, trivial⟩ ⟨rfl, Nat.le_refl _, by omega, rfl⟩ ?_
  rintro k Γ junk ⟨rfl, k1, k2, k3⟩
  by_cases hlt : k < l.length
  · obtain ⟨x, hx⟩ : ∃ x, l[k]? = some x := ⟨_, List.getElem?_eq_getElem hlt⟩
    obtain ⟨y, hy⟩ : ∃ y, l[k - 1]? = some y := ⟨_, List.getElem?_eq_getElem (by omega)⟩
    have hrx := ints_rd hx
    have hry := ints_rd hy
    obtain ⟨k, rfl⟩ : ∃ m, k = m + 1 := ⟨k - 1, by omega⟩
    simp only [Nat.add_sub_cancel] at hy hry
    by_cases hxy : x = y
    · subst hxy
      have hdd : ddN l (k + 2) = ddN l (k + 1) := by rw [ddN, hx, hy, if_pos rfl]
      repeat (first | refine zck ?_ | refine zcl ?_ | refine zcm ?_ | refine zcn ?_)
      first | refine zcp (by kernel_rfl) ?_ | refine zcq PP_mixed (by kernel_rfl) (by kernel_rfl) ?_
      repeat' (refine zap rfl ?_; first | refine zan rfl ?_ | refine zce rfl ?_ | refine zbg rfl rfl (by omega) ?_)
      all_goals refine zch ?_
      all_goals repeat (first | refine zck ?_ | refine zcl ?_ | refine zcm ?_ | refine zcn ?_)
      refine zci rfl ?_
      repeat (first | refine zck ?_ | refine zcl ?_ | refine zcm ?_ | refine zcn ?_)
      first | refine zcp (by kernel_rfl) ?_ | refine run_drawR PP_mixed (by kernel_rfl) (by kernel_rfl) ?_
      repeat' (refine zap rfl ?_; first | refine zag 0 rfl rfl (hrx _ (by omega)) (by intro h; cases h) ?_ | refine zag 0 rfl rfl (hry _ (by omega)) (by intro h; cases h) ?_ | refine zan rfl ?_ | refine zbc rfl rfl (by omega) ?_ | refine zav rfl rfl (by omega) ?_ | refine zas rfl rfl (by omega) ?_)
      all_goals refine zch ?_
      all_goals repeat (first | refine zck ?_ | refine zcl ?_ | refine zcm ?_ | refine zcn ?_)
      refine zci rfl ?_
      repeat (first | refine zck ?_ | refine zcl ?_ | refine zcm ?_ | refine zcn ?_)
      first | refine zcp (by kernel_rfl) ?_ | refine zcq PP_mixed (by kernel_rfl) (by kernel_rfl) ?_
      repeat' (refine zap rfl ?_; first | refine reg_slice1 rfl rfl ⟨by omega, by omega⟩ (by omega) ?_ | refine zan rfl ?_ | refine zan rfl ?_)
      all_goals refine zch ?_
      all_goals repeat (first | refine zck ?_ | refine zcl ?_ | refine zcm ?_ | refine zcn ?_)
      repeat (first | refine zck ?_ | refine zcl ?_ | refine zcm ?_ | refine zcn ?_)
      first | refine zcp (by kernel_rfl) ?_ | refine zcq PP_mixed (by kernel_rfl) (by kernel_rfl) ?_
      repeat' (refine zap rfl ?_; first | refine zan rfl ?_)
      all_goals refine zch ?_
      all_goals repeat (refine zck ?_)
      refine run_bind_eq2 (σ := { C : List Int // C.length = l.length ∧ (ddN l l.length).length < l.length ∧ C.take (ddN l l.length).length = ddN l l.length })
        (l' := fun _ => [(0, .slice (some ⟨bb, 0, none⟩) l.length cap), (3, .int .i64 ((ddN l l.length).length : Int))]) (Γ' := fun st => [SlA 28 1 (some ⟨bb, 0, none⟩) l.length cap (intsV st.1)]) ?_ ?_
      · refine zcl ?_
        refine run_loop (S := Nat × List Int) (fun st => [(0, .slice (some ⟨bb, 0, none⟩) l.length cap), (3, .int .i64 ((ddN l (k + 1 + st.1)).length : Int)), (4, .slice (some ⟨bb, k + 1, none⟩) (l.length - (k + 1)) (cap - (k + 1))), (5, .int .i64 (st.1 : Int))])
          (fun st Γ => Γ = [SlA 28 1 (some ⟨bb, 0, none⟩) l.length cap (intsV st.2)] ∧ 1 ≤ st.1 ∧ k + 1 + st.1 ≤ l.length ∧ st.2.length = l.length ∧ (ddN l (k + 1 + st.1)).length < k + 1 + st.1 ∧
            st.2.take (ddN l (k + 1 + st.1)).length = ddN l (k + 1 + st.1) ∧ ∀ j, k + st.1 ≤ j → st.2[j]? = l[j]?) (fun st => l.length - st.1) (1, l)
          ⟨rfl, by dsimp only; rw [hdd, k3]; exact int_eq (by simp; omega), rfl, rfl, trivial⟩ ⟨rfl, Nat.le_refl _, by dsimp only; omega, rfl, by dsimp only; rw [hdd, k3]; simp; omega, by dsimp only; rw [hdd, k3]; simp, fun _ _ => rfl⟩ ?_
        rintro ⟨k2, C⟩ Γ junk ⟨rfl, g1, g2, g3, g4, g5, g6⟩
        dsimp only at g1 g2 g3 g4 g5 g6 ⊢
        generalize hK : (ddN l (k + 1 + k2)).length = K at g4 g5 ⊢
        have ek : k + 1 + (k2 + 1) = k + k2 + 2 := by omega
        have ek2 : k + k2 + 1 = k + 1 + k2 := by omega
        by_cases hl2 : k + 1 + k2 < l.length
        · obtain ⟨u, hu⟩ : ∃ u, l[k + k2 + 1]? = some u := ⟨_, List.getElem?_eq_getElem (by omega)⟩
          obtain ⟨v, hv⟩ : ∃ v, l[k + k2]? = some v := ⟨_, List.getElem?_eq_getElem (by omega)⟩
          have hru := ints_rd ((g6 (k + k2 + 1) (by omega)).trans hu)
          have hrv := ints_rd ((g6 (k + k2) (by omega)).trans hv)
          have hstep : ddN l (k + 1 + (k2 + 1)) = if u = v then ddN l (k + 1 + k2) else ddN l (k + 1 + k2) ++ [u] := by
            rw [ek, ddN, hu, hv, ek2]
            by_cases h : u = v
            · subst h; simp
            · simp [h]
          by_cases huv : u = v
          · subst huv
            rw [if_pos rfl] at hstep
            repeat' (first | refine zck ?_ | refine zcp (by kernel_rfl) ?_ | refine run_drawR PP_mixed (by kernel_rfl) (by kernel_rfl) ?_ | refine zcm ?_ | refine zcl ?_ | refine zcn ?_ | (refine zap rfl ?_; first | refine zag 0 rfl rfl (hru _ (by omega)) (by intro h; cases h) ?_ | refine zag 0 rfl rfl (hrv _ (by omega)) (by intro h; cases h) ?_ | refine zan rfl ?_ | refine zan rfl ?_ | refine zce rfl ?_ | refine zbf rfl rfl (by omega) ?_ | refine zbg rfl rfl (by omega) ?_ | refine zau rfl rfl (by omega) ?_ | refine zav rfl rfl (by omega) ?_ | refine zas rfl rfl (by omega) ?_) | refine zch ?_ | refine zci rfl ?_ | refine zcj rfl ?_)
            exact cut_end ⟨rfl, (k2 + 1, C), ⟨rfl, by dsimp only; rw [hstep, hK]; rfl, rfl, int_eq (by dsimp only; omega), trivial⟩, ⟨rfl, by dsimp only; omega, by dsimp only; omega, g3, by dsimp only; rw [hstep, hK]; omega, by dsimp only; rw [hstep, hK]; exact g5, fun j hj => g6 j (by dsimp only at hj; omega)⟩, by dsimp only; omega⟩
          · rw [if_neg huv] at hstep
            have hKc : K < C.length := by omega
            have hw := wr_int1 C K u hKc
            have hw2 : ∀ o, o = K → wr [Value.int .i64 u] o (intsV C) = some (intsV (C.set K u)) := fun o ho => ho ▸ hw
            repeat' (first | refine zck ?_ | refine zcp (by kernel_rfl) ?_ | refine run_drawR PP_mixed (by kernel_rfl) (by kernel_rfl) ?_ | refine zcm ?_ | refine zcl ?_ | refine zcn ?_ | (refine zap rfl ?_; first | refine zag 0 rfl rfl (hru _ (by omega)) (by intro h; cases h) ?_ | refine zag 0 rfl rfl (hrv _ (by omega)) (by intro h; cases h) ?_ | refine zaf 0 rfl rfl rfl rfl rfl (hw2 _ (by omega)) rfl ?_ | refine zan rfl ?_ | refine zan rfl ?_ | refine zce rfl ?_ | refine zbe rfl rfl (by omega) ?_ | refine zbg rfl rfl (by omega) ?_ | refine zau rfl rfl (by omega) ?_ | refine zav rfl rfl (by omega) ?_ | refine zas rfl rfl (by omega) ?_) | refine zch ?_ | refine zci rfl ?_)
            have hl3 : (ddN l (k + 1 + (k2 + 1))).length = K + 1 := by rw [hstep, List.length_append, hK]; rfl
            refine cut_end ⟨rfl, (k2 + 1, C.set K u), ⟨rfl, by dsimp only; rw [hl3]; exact int_eq (by omega), rfl, int_eq (by dsimp only; omega), trivial⟩, ⟨rfl, by dsimp only; omega, by dsimp only; omega, by simpa using g3, by dsimp only; rw [hl3]; omega, ?_, fun j hj => ?_⟩, by dsimp only; omega⟩
            · dsimp only
              rw [hl3, hstep, List.take_add_one, List.take_set_of_le (Nat.le_refl _), g5]
              simp [hKc]
            · dsimp only at hj ⊢
              rw [List.getElem?_set_ne (by omega)]
              exact g6 j (by omega)
        · repeat' (first | refine zck ?_ | refine zcp (by kernel_rfl) ?_ | (refine zap rfl ?_; first | refine zan rfl ?_ | refine zce rfl ?_ | refine zbh rfl rfl (by omega) ?_) | refine zch ?_ | refine zcj rfl ?_)
          refine cut_exit rfl rfl ?_
          have e : k + 1 + k2 = l.length := by omega
          rw [e] at g4 g5 hK
          rw [hK]
          exact cut_end ⟨rfl, ⟨C, g3, by omega, g5⟩, ⟨rfl, rfl, trivial⟩, rfl⟩
      · rintro ⟨C, c1, c2, c3⟩ junk
        dsimp only
        generalize hK : ddN l l.length = D at c2 c3 ⊢
        have hDl : C.length = l.length := c1
        repeat' (first | refine zck ?_ | refine zcp (by kernel_rfl) ?_ | (refine zap rfl ?_; first | refine reg_slice1 rfl rfl ⟨by omega, by omega⟩ (by omega) ?_ | refine reg_slice2 rfl rfl ⟨by omega, by omega⟩ ?_ | refine reg_clear 0 rfl rfl rfl rfl (by omega) rfl ?_ | refine zan rfl ?_ | refine zan rfl ?_) | refine zch ?_)
        refine run_exch 0 (SlA 28 1 (some ⟨bb, 0, none⟩) D.length cap (intsV D)) rfl (fun g hg => ?_) rfl ?_
        · have h := SlA_cutc hg (q := D.length) (by omega)
          have e : (List.take D.length (intsV C) ++ List.replicate (l.length - D.length) (Value.int .i64 0) ++ List.drop (D.length + (l.length - D.length)) (intsV C)).take (D.length * 1) = intsV D := by
            have h1 : (List.take D.length (intsV C)).length = D.length := by simp [intsV]; omega
            rw [Nat.mul_one, List.append_assoc, List.take_append_of_le_length (by omega), List.take_take, Nat.min_self]
            rw [intsV, ← List.map_take, c3]; rfl
          rw [← e]
          exact h
        exact qret1 (fun _ _ h => h) rfl ⟨rfl, rfl⟩
    · repeat' (first | refine zck ?_ | refine zcp (by kernel_rfl) ?_ | refine run_drawR PP_mixed (by kernel_rfl) (by kernel_rfl) ?_ | refine zcm ?_ | refine zcl ?_ | refine zcn ?_ | (refine zap rfl ?_; first | refine zag 0 rfl rfl (hrx _ (by omega)) (by intro h; cases h) ?_ | refine zag 0 rfl rfl (hry _ (by omega)) (by intro h; cases h) ?_ | refine zan rfl ?_ | refine zan rfl ?_ | refine zce rfl ?_ | refine zbd rfl rfl (by omega) ?_ | refine zbg rfl rfl (by omega) ?_ | refine zau rfl rfl (by omega) ?_ | refine zav rfl rfl (by omega) ?_ | refine zas rfl rfl (by omega) ?_) | refine zch ?_ | refine zci rfl ?_ | refine zcj rfl ?_)
      refine cut_end ⟨rfl, k + 2, ⟨rfl, int_eq (by omega), trivial⟩, ⟨rfl, by omega, by omega, ?_⟩, by omega⟩
      rw [ddN, hx, hy, if_neg (by intro e; exact hxy (Option.some.inj e)), k3, List.take_add_one (i := k + 1), hx]
  · repeat' (first | refine zck ?_ | refine zcp (by kernel_rfl) ?_ | (refine zap rfl ?_; first | refine zan rfl ?_ | refine zce rfl ?_ | refine zbh rfl rfl (by omega) ?_) | refine zch ?_ | refine zcj rfl ?_)
    refine cut_exit rfl rfl ?_
    repeat' (first | refine zck ?_ | refine zcp (by kernel_rfl) ?_ | (refine zap rfl ?_; first | refine zan rfl ?_ | refine zan rfl ?_) | refine zch ?_)
    have e : k = l.length := by omega
    subst e
    rw [k3, List.take_length]
    exact ret_tmp1 rfl ⟨rfl, rfl⟩
end Go.Proofs.YtloekplbhknepaaGreat

namespace Sim
open Go Go.Vc
theorem flat_two : ∀ (l : List (Int × Int)) (k : Nat) (q : Int × Int), l[k]? = some q → rd true 2 (flat l) (k * 2) = some (.agg (List.toArray [.int .i64 q.1, .int .i64 q.2]))
  | [], k, q, h => by simp at h
  | (a, v) :: l, 0, q, h => by simp at h; subst h; rfl
  | (a, v) :: l, k + 1, q, h => by
    have e : (k + 1) * 2 = k * 2 + 1 + 1 := by omega
    simp only [List.getElem?_cons_succ] at h
    have ih := flat_two l k q h
    rw [e]
    exact ih
def Sp.writes (s : Sp) : List Int := let l := (s.puts.map (·.1)).mergeSort (fun x y => decide (x ≤ y)); ddN l l.length
theorem Sp.writes_nil {s : Sp} (h : s.puts = []) : s.writes = [] := by simp [Sp.writes, h, ddN]
theorem Sp.writes_mem {s : Sp} (x : Int) : x ∈ s.writes ↔ ∃ p ∈ s.puts, p.1 = x := by
  unfold Sp.writes
  simp only
  rw [ddN_mem, List.take_length, List.mem_mergeSort, List.mem_map]
theorem Sp.writes_len0 {s : Sp} : s.writes.length = 0 ↔ s.puts = [] := by
  constructor
  · intro h
    cases hp : s.puts with
    | nil => rfl
    | cons p l =>
      have : p.1 ∈ s.writes := (Sp.writes_mem _).2 ⟨p, by rw [hp]; simp, rfl⟩
      rw [List.length_eq_zero_iff.1 h] at this
      cases this
  · intro h; rw [Sp.writes_nil h]; rfl
end Sim
namespace Go.Proofs.YtloekplbhknepaaGreat
open Go.Vc Sim
set_option maxHeartbeats 4000000
theorem writes_spec (w0 : World) (p : Nat) (s : Sp) (hlen : s.puts.length < 65536) :
    Vc.Fn PP w0 [] 45 [spP p] [SpaceA p s] fun v Γ => ∃ a cap, v = .slice a s.writes.length cap ∧ Γ = [SpaceA p s, SlA 28 1 a s.writes.length cap (intsV s.writes)] := by
  refine fn_of_run en45 fn45 rfl rfl rfl ?_
  refine run_open [0] (SpaceParts p s) rfl (fun _ h => h) ?_
  rintro ⟨bk, br, sa, sc⟩
  refine run_nilslice 28 1 ?_
  repeat (first | refine zck ?_ | refine zcl ?_ | refine zcm ?_ | refine zcn ?_)
  first | refine zcp (by kernel_rfl) ?_ | refine zcq PP_mixed (by kernel_rfl) (by kernel_rfl) ?_
  repeat' (refine zap rfl ?_; first | refine zan rfl ?_)
  all_goals refine zch ?_
  all_goals repeat (first | refine zck ?_ | refine zcl ?_ | refine zcm ?_ | refine zcn ?_)
  repeat (first | refine zck ?_ | refine zcl ?_ | refine zcm ?_ | refine zcn ?_)
  first | refine zcp (by kernel_rfl) ?_ | refine zcq PP_mixed (by kernel_rfl) (by kernel_rfl) ?_
  repeat' (refine zap rfl ?_; first | refine zan rfl ?_)
  all_goals refine zch ?_
  all_goals repeat (first | refine zck ?_ | refine zcl ?_ | refine zcm ?_ | refine zcn ?_)
  repeat (first | refine zck ?_ | refine zcl ?_ | refine zcm ?_ | refine zcn ?_)
  first | refine zcp (by kernel_rfl) ?_ | refine zcq PP_mixed (by kernel_rfl) (by kernel_rfl) ?_
  repeat' (refine zap rfl ?_; first | refine zan rfl ?_ | refine zaz rfl rfl ?_)
  all_goals refine zch ?_
  all_goals repeat (first | refine zck ?_ | refine zcl ?_ | refine zcm ?_ | refine zcn ?_)
  refine zcj rfl ?_
  refine zcm ?_
  repeat (first | refine zck ?_ | refine zcl ?_ | refine zcm ?_ | refine zcn ?_)
  first | refine zcp (by kernel_rfl) ?_ | refine zcq PP_mixed (by kernel_rfl) (by kernel_rfl) ?_
  repeat' (refine zap rfl ?_; first | refine zan rfl ?_ | refine zab 0 rfl rfl rfl ?_ | refine zce rfl ?_ | refine zao rfl ?_ | refine zan rfl ?_)
  all_goals refine zch ?_
  all_goals repeat (refine zck ?_)
  refine zcl ?_
  refine run_loop (S := Option Addr × Nat × Nat) (fun st => [(3, .slice st.1 st.2.2 st.2.1), (12, .slice sa s.puts.length sc), (13, .int .i64 (s.puts.length : Int)), (14, .int .i64 (st.2.2 : Int))])
    (fun st Γ => Γ = SpaceParts p s (bk, br, sa, sc) ++ [SlA 28 1 st.1 st.2.2 st.2.1 (intsV ((s.puts.take st.2.2).map (·.1)))] ∧ st.2.2 ≤ s.puts.length)
    (fun st => s.puts.length - st.2.2) (none, 0, 0) ⟨rfl, rfl, rfl, rfl, trivial⟩ ⟨rfl, Nat.zero_le _⟩ ?_
  rintro ⟨a, cap, i⟩ Γ junk ⟨rfl, h1⟩
  dsimp only at h1 ⊢
  by_cases hlt : i < s.puts.length
  · obtain ⟨q, hq⟩ : ∃ q, s.puts[i]? = some q := ⟨_, List.getElem?_eq_getElem hlt⟩
    have hr : ∀ o, o = i * 2 → rd true 2 (flat s.puts) o = some (.agg (List.toArray [.int .i64 q.1, .int .i64 q.2])) := fun o ho => ho ▸ flat_two _ _ _ hq
    refine run_sl_cases 3 rfl (fun _ h _ _ => absurd h (by omega)) ?_
    intro bb k1 k2 k3
    subst k1
    repeat' (first | refine zck ?_ | refine zcp (by kernel_rfl) ?_ | refine zcm ?_ | refine zcl ?_ | refine zcn ?_ | (refine zap rfl ?_; first | refine zag 3 rfl rfl (hr _ (by omega)) (by intro _; decide) ?_ | refine reg_buildSlice rfl rfl rfl rfl rfl rfl (fun nb => ?_) | refine reg_append 4 6 rfl rfl rfl rfl rfl rfl rfl rfl (by omega) (fun _ _ => rfl) (fun a' cap' => ?_) | refine zan rfl ?_ | refine zan rfl ?_ | refine zab 5 rfl rfl rfl ?_ | refine zao rfl ?_ | refine zbg rfl rfl (by omega) ?_ | refine zau rfl rfl (by omega) ?_ | refine zae 5 rfl rfl rfl rfl rfl rfl rfl ?_ | refine zas rfl rfl (by omega) ?_ | refine zar (fun nb => ?_)) | refine zch ?_ | refine zci rfl ?_)
    refine run_take [0, 0, 0, 0, 0] rfl ?_
    have et : (s.puts.take (i + 1)).map (·.1) = (s.puts.take i).map (·.1) ++ [q.1] := by rw [List.take_add_one, hq]; simp
    refine cut_end ⟨rfl, (a', cap', i + 1), ⟨rfl, rfl, rfl, int_eq (by dsimp only; omega), trivial⟩, ⟨?_, hlt⟩, by dsimp only; omega⟩
    dsimp only
    rw [et]
    simp only [intsV, List.map_append]
    rfl
  · have e : i = s.puts.length := by omega
    subst e
    rw [List.take_length]
    have hS := sort_spec w0 a s.puts.length cap (s.puts.map (·.1)) hlen (by rw [List.length_map])
    generalize hL : (s.puts.map (·.1)).mergeSort (fun x y => decide (x ≤ y)) = L at hS
    have hLl : L.length = s.puts.length := by rw [← hL, List.length_mergeSort, List.length_map]
    have hw : s.writes = ddN L L.length := by unfold Sp.writes; simp only [hL]
    have hC := compact_spec w0 a cap L (by omega)
    rw [hLl] at hC
    repeat' (first | refine zck ?_ | refine zcp (by kernel_rfl) ?_ | (refine zap rfl ?_; first | refine zbh rfl rfl (by omega) ?_) | refine zch ?_ | refine zcj rfl ?_)
    refine cut_exit rfl rfl ?_
    repeat' (first | refine zck ?_ | refine zcp (by kernel_rfl) ?_ | (refine zap rfl ?_; first | refine zan rfl ?_ | refine zan rfl ?_ | refine zah [4] hS rfl rfl rfl sub_nil rfl ?_ | refine zah [0] hC rfl rfl rfl sub_nil rfl ?_) | refine zch ?_)
    refine run_close (A := SpaceA p s) [1, 1, 1, 1] rfl (fun _ h => ⟨(bk, br, sa, sc), h⟩) ?_
    refine ret_tmp1 rfl ⟨a, cap, ?_, ?_⟩
    · rw [hw, hLl]; rfl
    · rw [hw, hLl]
end Go.Proofs.YtloekplbhknepaaGreat

namespace Sim
open Go Go.Vc
def valW (kn : List (Int × Wd)) (a : Int) : Int := match lookW kn a with | some w => w.val | none => 0
def alikeB (ka kb : List (Int × Wd)) : Bool := decide (ka.length = kb.length) && ka.all fun p => decide (valW kb p.1 = p.2.val)
theorem valW_look (kn : List (Int × Wd)) (a : Int) (zv : Value) (hz : zv = wordV ⟨0, 0, 0⟩) : (Vc.look (knM kn) a).getD zv = wordV ((lookW kn a).getD ⟨0, 0, 0⟩) := by
  rw [look_knM, hz]
  cases lookW kn a <;> rfl
theorem valW_getD (kn : List (Int × Wd)) (a : Int) : ((lookW kn a).getD ⟨0, 0, 0⟩).val = valW kn a := by unfold valW; cases lookW kn a <;> rfl
end Sim
namespace Go.Proofs.YtloekplbhknepaaGreat
open Go.Vc Sim
set_option maxHeartbeats 4000000
theorem new_sh (w0 : World) (kb : Nat) (kn : List (Int × Wd)) (hkn : ∀ (q : Nat) a w, kn[q]? = some (a, w) → lookW kn a = some w ∧ w.ref = 0) :
    Vc.Fn PP w0 [(kb, mapI (knM kn))] 43 [.map (some kb)] []
      (fun v Γ => ∃ p kn', v = spP p ∧ Γ = [SpaceA p ⟨kn', [], [], 0, false⟩] ∧ ∀ a, lookW kn' a = lookW kn a) := by
  refine fn_of_run en43 fn43 rfl rfl rfl ?_
  repeat (first | refine zck ?_ | refine zcl ?_ | refine zcm ?_ | refine zcn ?_)
  first | refine zcp (by kernel_rfl) ?_ | refine zcq PP_mixed (by kernel_rfl) (by kernel_rfl) ?_
  repeat' (refine zap rfl ?_; first | refine zan rfl ?_)
  all_goals refine zch ?_
  all_goals repeat (first | refine zck ?_ | refine zcl ?_ | refine zcm ?_ | refine zcn ?_)
  repeat (first | refine zck ?_ | refine zcl ?_ | refine zcm ?_ | refine zcn ?_)
  first | refine zcp (by kernel_rfl) ?_ | refine zcq PP_mixed (by kernel_rfl) (by kernel_rfl) ?_
  repeat' (refine zap rfl ?_; first | refine zan rfl ?_ | refine zaq (cs := [_, _, _, _, _]) rfl (fun nb => ?_) | refine zcc (fun nb => ?_) | refine zcb rfl ?_)
  all_goals refine zch ?_
  all_goals repeat (first | refine zck ?_ | refine zcl ?_ | refine zcm ?_ | refine zcn ?_)
  rename_i m1 m2
  revert nb; intro p
  refine run_share_keep [2] rfl ?_
  repeat (first | refine zck ?_ | refine zcl ?_ | refine zcm ?_ | refine zcn ?_)
  first | refine zcp (by kernel_rfl) ?_ | refine zcq PP_mixed (by kernel_rfl) (by kernel_rfl) ?_
  repeat' (refine zap rfl ?_; first | refine reg_rangeK rfl (sh_know 1 rfl) (fun nb => ?_) | refine zan rfl ?_)
  all_goals refine zch ?_
  all_goals repeat (first | refine zck ?_ | refine zcl ?_ | refine zcm ?_ | refine zcn ?_)
  revert nb; intro it
  refine run_loop (S := List (Int × Wd) × List Nat) (fun _ => [(3, spP p), (11, .pointer (some ⟨it, 0, none⟩))])
    (fun st Γ => Γ = [pt m1 (mapI (knM st.1)), pt m2 (mapI []), pt it (iterI kb (knM kn).length st.2 (knM kn).length)] ∧ (∀ q ∈ st.2, ∀ a w, kn[q]? = some (a, w) → lookW st.1 a = some w) ∧ (∀ a w, lookW st.1 a = some w → lookW kn a = some w))
    (fun st => cnt kn.length st.2) ([], []) ⟨rfl, rfl, trivial⟩ ⟨rfl, by simp, by simp [lookW]⟩ ?_
  rintro ⟨kn', seen⟩ Γ junk ⟨rfl, h1, h2⟩
  dsimp only at h1 h2 ⊢
  repeat (first | refine zck ?_ | refine zcl ?_ | refine zcm ?_ | refine zcn ?_ | refine zco ?_)
  refine zcp (by kernel_rfl) ?_
  refine zap rfl ?_
  refine reg_next 2 0 rfl rfl (sh_know 1 rfl) rfl (fun _ => rfl) (fun hall => ?_) (fun q e hq hns => ?_)
  · repeat' (first | refine zck ?_ | (refine zap rfl ?_; first | refine zan rfl ?_) | refine zch ?_ | refine zcj rfl ?_)
    refine cut_exit rfl rfl ?_
    repeat' (first | refine zck ?_ | refine zcp (by kernel_rfl) ?_ | (refine zap rfl ?_; first | refine zan rfl ?_ | refine zan rfl ?_) | refine zch ?_)
    refine run_nilslice 160 2 ?_
    refine run_ret (leaves_nil (ends_close1 (A := SpaceA p ⟨kn', [], [], 0, false⟩) [4, 0, 0, 1] rfl (fun _ h => ⟨(m1, m2, none, 0), h⟩) (ends_one rfl rfl ⟨rfl, p, kn', rfl, rfl, fun a => ?_⟩)))
    cases hk : lookW kn a with
    | none =>
      cases hk' : lookW kn' a with
      | none => rfl
      | some w => have := h2 a w hk'; rw [hk] at this; cases this
    | some w =>
      obtain ⟨q, hq⟩ := lookW_mem kn a w hk
      have hql := (List.getElem?_eq_some_iff.1 hq).1
      exact h1 q (hall q (by rw [knM_length]; exact hql)) a w hq
  · rw [knM_get] at hq
    obtain ⟨⟨a, w⟩, hq2, rfl⟩ : ∃ aw, kn[q]? = some aw ∧ e = (aw.1, wordV aw.2) := by
      cases h : kn[q]? with
      | none => rw [h] at hq; cases hq
      | some aw => rw [h] at hq; exact ⟨aw, rfl, (Option.some.inj hq).symm⟩
    obtain ⟨hk1, hk2⟩ := hkn q a w hq2
    have hql := (List.getElem?_eq_some_iff.1 hq2).1
    have hq3 : (knM kn)[q]? = some (a, wordV w) := by rw [knM_get, hq2]; rfl
    repeat' (refine zap rfl ?_; first | refine zan rfl ?_)
    refine zch ?_
    repeat (first | refine zck ?_ | refine zcl ?_ | refine zcm ?_ | refine zcn ?_ | refine zco ?_)
    refine zci rfl ?_
    repeat (first | refine zck ?_ | refine zcl ?_ | refine zcm ?_ | refine zcn ?_ | refine zco ?_)
    repeat (first | refine zck ?_ | refine zcl ?_ | refine zcm ?_ | refine zcn ?_)
    first | refine zcp (by kernel_rfl) ?_ | refine zcq PP_mixed (by kernel_rfl) (by kernel_rfl) ?_
    repeat' (refine zap rfl ?_; first | refine reg_entry 2 rfl rfl (sh_know 1 rfl) hq3 ?_ | refine zan rfl ?_ | refine zan rfl ?_ | refine zae 3 rfl rfl rfl rfl rfl rfl rfl ?_ | refine zar (fun nb => ?_))
    all_goals refine zch ?_
    all_goals repeat (first | refine zck ?_ | refine zcl ?_ | refine zcm ?_ | refine zcn ?_)
    refine run_share [3] rfl ?_
    repeat (first | refine zck ?_ | refine zcl ?_ | refine zcm ?_ | refine zcn ?_)
    first | refine zcp (by kernel_rfl) ?_ | refine zcq PP_mixed (by kernel_rfl) (by kernel_rfl) ?_
    repeat' (refine zap rfl ?_; first | refine zaa 0 rfl rfl rfl ?_ | refine zao rfl ?_ | refine zbo rfl rfl ?_)
    all_goals refine zch ?_
    all_goals repeat (first | refine zck ?_ | refine zcl ?_ | refine zcm ?_ | refine zcn ?_)
    refine zci (bool_eq (decide_eq_true hk2)) ?_
    repeat' (first | refine zcq PP_mixed (by kernel_rfl) (by kernel_rfl) ?_ | refine zcn ?_ | (refine zap rfl ?_; first | refine reg_mapUpdate 0 rfl rfl rfl rfl rfl ?_ | refine zan rfl ?_ | refine zaa 0 rfl rfl rfl ?_ | refine zaa 1 rfl rfl rfl ?_ | refine zao rfl ?_ | refine zan rfl ?_) | refine zch ?_)
    refine cut_end ⟨rfl, (insW kn' a w, seen ++ [q]), ⟨rfl, rfl, trivial⟩, ⟨?_, ?_, ?_⟩, ?_⟩
    · show _ = [pt m1 (mapI (knM (insW kn' a w))), _, _]
      rw [← ins_knM]; rfl
    · intro q' hq' a' w' h
      rw [look_insW]
      rcases List.mem_append.1 hq' with hq' | hq'
      · have := h1 q' hq' a' w' h
        by_cases e : a = a'
        · subst e; rw [if_pos rfl]
          have := (hkn q' a w' h).1
          rw [hk1] at this; exact this
        · rw [if_neg e]; exact this
      · simp at hq'; subst hq'
        rw [hq2] at h; cases h; rw [if_pos rfl]
    · intro a' w' h
      rw [look_insW] at h
      by_cases e : a = a'
      · subst e; rw [if_pos rfl] at h; cases h; exact hk1
      · rw [if_neg e] at h; exact h2 a' w' h
    · have := (cnt_more q seen hns kn.length).2 hql
      dsimp only; omega
theorem wk_rep (i : Nat) : wk 0 (List.replicate (i + 1) 0) = wk 0 (List.replicate i 0) ++ [((i : Int), ⟨0, 0, 0⟩)] := by
  rw [List.replicate_succ', wk_snoc, List.length_replicate, Nat.zero_add]
theorem fresh_spec (w0 : World) (n : Nat) (hn : n ≤ 100000) :
    Vc.Fn PP w0 [] 18 [.int .i64 n] [] (fun v Γ => ∃ mb, v = .map (some mb) ∧ Γ = [pt mb (mapI (knM (wk 0 (List.replicate n 0))))]) := by
  refine fn_of_run en18 fn18 rfl rfl rfl ?_
  repeat (first | refine zck ?_ | refine zcl ?_ | refine zcm ?_ | refine zcn ?_)
  first | refine zcp (by kernel_rfl) ?_ | refine zcq PP_mixed (by kernel_rfl) (by kernel_rfl) ?_
  repeat' (refine zap rfl ?_; first | refine zan rfl ?_)
  all_goals refine zch ?_
  all_goals repeat (first | refine zck ?_ | refine zcl ?_ | refine zcm ?_ | refine zcn ?_)
  repeat (first | refine zck ?_ | refine zcl ?_ | refine zcm ?_ | refine zcn ?_)
  first | refine zcp (by kernel_rfl) ?_ | refine zcq PP_mixed (by kernel_rfl) (by kernel_rfl) ?_
  repeat' (refine zap rfl ?_; first | refine zan rfl ?_ | refine zcc (fun nb => ?_))
  all_goals refine zch ?_
  all_goals repeat (first | refine zck ?_ | refine zcl ?_ | refine zcm ?_ | refine zcn ?_)
  repeat (first | refine zck ?_ | refine zcl ?_ | refine zcm ?_ | refine zcn ?_)
  first | refine zcp (by kernel_rfl) ?_ | refine zcq PP_mixed (by kernel_rfl) (by kernel_rfl) ?_
  repeat' (refine zap rfl ?_; first | refine zan rfl ?_)
  all_goals refine zch ?_
  all_goals repeat (first | refine zck ?_ | refine zcl ?_ | refine zcm ?_ | refine zcn ?_)
  refine run_loop (S := Nat) (fun i => [(3, .map (some nb)), (6, .int .i64 (n : Int)), (7, .int .i64 (i : Int))])
    (fun i Γ => Γ = [pt nb (mapI (knM (wk 0 (List.replicate i 0))))] ∧ i ≤ n) (fun i => n - i) 0 ⟨rfl, rfl, rfl, trivial⟩ ⟨rfl, Nat.zero_le _⟩ ?_
  rintro i Γ junk ⟨rfl, hi⟩
  by_cases hlt : i < n
  · have hnone : lookW (wk 0 (List.replicate i 0)) (i : Int) = none := by rw [lookW_wk, if_neg]; simp
    have hins : ins (knM (wk 0 (List.replicate i 0))) (i : Int) (wordV ⟨0, 0, 0⟩) = knM (wk 0 (List.replicate (i + 1) 0)) := by
      rw [ins_knM, insW_none _ _ _ hnone, wk_rep]
    repeat' (first | refine zck ?_ | refine zcp (by kernel_rfl) ?_ | refine zcm ?_ | refine zcl ?_ | refine zcn ?_ | (refine zap rfl ?_; first | refine zcb rfl ?_ | refine reg_mapUpdate 0 rfl rfl rfl rfl rfl ?_ | refine zan rfl ?_ | refine zan rfl ?_ | refine zbg rfl rfl (by omega) ?_ | refine zau rfl rfl (by omega) ?_) | refine zch ?_ | refine zci rfl ?_)
    refine cut_end ⟨rfl, i + 1, ⟨rfl, rfl, int_eq (by omega), trivial⟩, ⟨?_, hlt⟩, by omega⟩
    rw [← hins]; rfl
  · repeat' (first | refine zck ?_ | refine zcp (by kernel_rfl) ?_ | (refine zap rfl ?_; first | refine zbh rfl rfl (by omega) ?_) | refine zch ?_ | refine zcj rfl ?_)
    refine cut_exit rfl rfl ?_
    repeat' (first | refine zck ?_ | refine zcp (by kernel_rfl) ?_ | (refine zap rfl ?_; first | refine zan rfl ?_ | refine zan rfl ?_) | refine zch ?_)
    have e : i = n := by omega
    subst e
    exact ret_tmp1 rfl ⟨_, rfl, rfl⟩
theorem alike_spec (w0 : World) (ab bb : Nat) (ka kb : List (Int × Wd)) :
    FnE PP w0 [(ab, mapI (knM ka)), (bb, mapI (knM kb))] 26 [.map (some ab), .map (some bb)] [] (.bool (alikeB ka kb)) [] := by
  refine fn_of_run en26 fn26 rfl rfl rfl ?_
  by_cases hl : ka.length = kb.length
  case neg =>
    have e : alikeB ka kb = false := by unfold alikeB; rw [decide_eq_false hl]; rfl
    have hl2 : (((knM ka).length : Nat) : Int) ≠ ((knM kb).length : Nat) := by rw [knM_length, knM_length]; omega
    repeat' (first | refine zck ?_ | refine zcp (by kernel_rfl) ?_ | (refine zap rfl ?_; first | refine reg_len_mapS 0 rfl rfl ?_ | refine reg_len_mapS 1 rfl rfl ?_ | refine zan rfl ?_ | refine zan rfl ?_ | refine zbe rfl rfl (by omega) ?_) | refine zch ?_ | refine zci rfl ?_)
    rw [e]
    exact ret_tmp1 rfl ⟨rfl, rfl⟩
  have hl2 : (((knM ka).length : Nat) : Int) = ((knM kb).length : Nat) := by rw [knM_length, knM_length]; omega
  repeat (first | refine zck ?_ | refine zcl ?_ | refine zcm ?_ | refine zcn ?_)
  first | refine zcp (by kernel_rfl) ?_ | refine zcq PP_mixed (by kernel_rfl) (by kernel_rfl) ?_
  repeat' (refine zap rfl ?_; first | refine zan rfl ?_)
  all_goals refine zch ?_
  all_goals repeat (first | refine zck ?_ | refine zcl ?_ | refine zcm ?_ | refine zcn ?_)
  repeat (first | refine zck ?_ | refine zcl ?_ | refine zcm ?_ | refine zcn ?_)
  first | refine zcp (by kernel_rfl) ?_ | refine zcq PP_mixed (by kernel_rfl) (by kernel_rfl) ?_
  repeat' (refine zap rfl ?_; first | refine reg_len_mapS 0 rfl rfl ?_ | refine reg_len_mapS 1 rfl rfl ?_ | refine zan rfl ?_ | refine zbf rfl rfl (by omega) ?_)
  all_goals refine zch ?_
  all_goals repeat (first | refine zck ?_ | refine zcl ?_ | refine zcm ?_ | refine zcn ?_)
  refine zcj rfl ?_
  repeat (first | refine zck ?_ | refine zcl ?_ | refine zcm ?_ | refine zcn ?_)
  first | refine zcp (by kernel_rfl) ?_ | refine zcq PP_mixed (by kernel_rfl) (by kernel_rfl) ?_
  repeat' (refine zap rfl ?_; first | refine reg_rangeK rfl (sh_know 0 rfl) (fun nb => ?_) | refine zan rfl ?_)
  all_goals refine zch ?_
  all_goals repeat (first | refine zck ?_ | refine zcl ?_ | refine zcm ?_ | refine zcn ?_)
  revert nb; intro it
  refine run_loop (S := List Nat) (fun _ => [(1, .map (some bb)), (13, .pointer (some ⟨it, 0, none⟩))])
    (fun st Γ => Γ = [pt it (iterI ab (knM ka).length st (knM ka).length)] ∧ (∀ q ∈ st, ∀ p, ka[q]? = some p → valW kb p.1 = p.2.val))
    (fun st => cnt ka.length st) [] ⟨rfl, rfl, trivial⟩ ⟨rfl, by simp⟩ ?_
  rintro seen Γ junk ⟨rfl, h1⟩
  repeat (first | refine zck ?_ | refine zcl ?_ | refine zcm ?_ | refine zcn ?_ | refine zco ?_)
  refine zcp (by kernel_rfl) ?_
  refine zap rfl ?_
  refine reg_next 0 0 rfl rfl (sh_know 0 rfl) rfl (fun _ => rfl) (fun hall => ?_) (fun q e hq hns => ?_)
  · repeat' (first | refine zck ?_ | (refine zap rfl ?_; first | refine zan rfl ?_) | refine zch ?_ | refine zcj rfl ?_)
    refine cut_exit rfl rfl ?_
    repeat' (first | refine zck ?_ | refine zcp (by kernel_rfl) ?_ | (refine zap rfl ?_; first | refine zan rfl ?_) | refine zch ?_)
    refine run_take [] rfl ?_
    have e : alikeB ka kb = true := by
      unfold alikeB
      rw [decide_eq_true hl, Bool.true_and, List.all_eq_true]
      intro p hp
      obtain ⟨q, hq⟩ := List.mem_iff_getElem?.1 hp
      exact decide_eq_true (h1 q (hall q (by rw [knM_length]; exact (List.getElem?_eq_some_iff.1 hq).1)) p hq)
    rw [e]
    exact ret_tmp1 rfl ⟨rfl, rfl⟩
  · rw [knM_get] at hq
    obtain ⟨⟨a, w⟩, hq2, rfl⟩ : ∃ aw, ka[q]? = some aw ∧ e = (aw.1, wordV aw.2) := by
      cases h : ka[q]? with
      | none => rw [h] at hq; cases hq
      | some aw => rw [h] at hq; exact ⟨aw, rfl, (Option.some.inj hq).symm⟩
    have hql := (List.getElem?_eq_some_iff.1 hq2).1
    have hq3 : (knM ka)[q]? = some (a, wordV w) := by rw [knM_get, hq2]; rfl
    repeat' (refine zap rfl ?_; first | refine zan rfl ?_)
    refine zch ?_
    repeat (first | refine zck ?_ | refine zcl ?_ | refine zcm ?_ | refine zcn ?_ | refine zco ?_)
    refine zci rfl ?_
    repeat (first | refine zck ?_ | refine zcl ?_ | refine zcm ?_ | refine zcn ?_ | refine zco ?_)
    repeat (first | refine zck ?_ | refine zcl ?_ | refine zcm ?_ | refine zcn ?_)
    first | refine zcp (by kernel_rfl) ?_ | refine zcq PP_mixed (by kernel_rfl) (by kernel_rfl) ?_
    repeat' (refine zap rfl ?_; first | refine reg_entry 0 rfl rfl (sh_know 0 rfl) hq3 ?_ | refine zan rfl ?_ | refine zan rfl ?_ | refine zae 1 rfl rfl rfl rfl rfl rfl rfl ?_ | refine zar (fun nb => ?_))
    all_goals refine zch ?_
    all_goals repeat (first | refine zck ?_ | refine zcl ?_ | refine zcm ?_ | refine zcn ?_)
    refine run_share [1] rfl ?_
    repeat (first | refine zck ?_ | refine zcl ?_ | refine zcm ?_ | refine zcn ?_)
    first | refine zcp (by kernel_rfl) ?_ | refine zcq PP_mixed (by kernel_rfl) (by kernel_rfl) ?_
    repeat' (refine zap rfl ?_; first | refine reg_lookup_sh 2 rfl rfl rfl (valW_look kb a _ rfl) ?_ | refine reg_fieldV rfl rfl ?_ | refine zan rfl ?_ | refine zaa 0 rfl rfl rfl ?_ | refine zao rfl ?_ | refine zbp rfl rfl ?_)
    all_goals refine zch ?_
    all_goals repeat (first | refine zck ?_ | refine zcl ?_ | refine zcm ?_ | refine zcn ?_)
    refine run_cond rfl (fun hE => ?_) (fun hE => ?_)
    · have hE : valW kb a ≠ w.val := by rw [← valW_getD]; exact hE
      repeat' (first | refine zck ?_ | refine zcp (by kernel_rfl) ?_ | (refine zap rfl ?_; first | refine zan rfl ?_) | refine zch ?_)
      refine run_take [] rfl ?_
      have e : alikeB ka kb = false := by
        unfold alikeB
        rw [decide_eq_true hl, Bool.true_and, List.all_eq_false]
        exact ⟨(a, w), List.mem_of_getElem? hq2, by simpa using hE⟩
      rw [e]
      exact qret1 (fun _ _ h => h) rfl ⟨rfl, rfl⟩
    · have hE : valW kb a = w.val := by rw [← valW_getD]; exact Classical.not_not.1 hE
      repeat' (first | refine zcm ?_ | refine zcn ?_ | (refine zap rfl ?_; first | refine zan rfl ?_) | refine zch ?_)
      refine cut_end ⟨rfl, seen ++ [q], ⟨rfl, rfl, trivial⟩, ⟨rfl, ?_⟩, ?_⟩
      · intro q' hq' p hp
        rcases List.mem_append.1 hq' with hq' | hq'
        · exact h1 q' hq' p hp
        · simp at hq'; subst hq'
          rw [hq2] at hp; cases hp; exact hE
      · have := (cnt_more q seen hns ka.length).2 hql
        omega
end Go.Proofs.YtloekplbhknepaaGreat

namespace Go.Proofs.YtloekplbhknepaaGreat
open Go.Vc Sim
set_option maxHeartbeats 4000000
theorem word_underlying : PP.underlying 68 = some (.struct #[⟨"Val", 2, 0, false, "", "", 0⟩, ⟨"Ver", 66, 1, false, "", "", 8⟩, ⟨"Ref", 66, 2, false, "", "", 12⟩]) := by
  rw [PP_def, Tryz.underlying68]
theorem word_stood : PP.stoodInHeld 68 = false := by rw [PP_def]; kernel_rfl
theorem word_guard : PP.eqGuardType PP.depth 68 = false := by rw [PP_def]; kernel_rfl
theorem int_eqIn {t : TypeId} {k : IntKind} (h : PP.underlying t = some (.int k)) (d : Nat) (m : Int) (w : World) : (Op.equalIn (d + 1) t (.int k m) (.int k m)).run PP w = .ok true w := by
  simp [Op.equalIn, run_underlying h]
theorem run_equal2 {P : Program} {t : TypeId} {u v : Value} {q : Bool} {w : World} (h : ∀ d, (Op.equalIn (d + 2) t u v).run P w = .ok q w) : (Op.equal t u v).run P w = .ok q w := h 9998
theorem word_equal (a b c : Int) (w : World) : (Op.equal 68 (.agg #[.int .i64 a, .int .u32 b, .int .u32 c]) (.agg #[.int .i64 a, .int .u32 b, .int .u32 c])).run PP w = .ok true w := by
  have h2 : PP.underlying 2 = some (.int .i64) := by rw [PP_def, Tryz.underlying2]
  have h46 : PP.underlying 66 = some (.int .u32) := by rw [PP_def, Tryz.underlying66]
  have e2 := fun d w => int_eqIn h2 d a w
  have e46 := fun d m w => int_eqIn h46 d m w
  have a2 : ∀ w, (isAgg 2).run PP w = .ok false w := fun w => TShape.agg_run w
  have a46 : ∀ w, (isAgg 66).run PP w = .ok false w := fun w => TShape.agg_run w
  have p2 : ∀ w, (part 2 #[Value.int .i64 a, .int .u32 b, .int .u32 c] 0).run PP w = .ok (.int .i64 a) w := fun w => by simp [part, a2]
  have p3 : ∀ w, (part 66 #[Value.int .i64 a, .int .u32 b, .int .u32 c] 1).run PP w = .ok (.int .u32 b) w := fun w => by simp [part, a46]
  have p4 : ∀ w, (part 66 #[Value.int .i64 a, .int .u32 b, .int .u32 c] 2).run PP w = .ok (.int .u32 c) w := fun w => by simp [part, a46]
  refine run_equal2 (fun d => ?_)
  rw [Op.equalIn]
  simp only [Sem.run_bind, run_underlying word_underlying, Result.andThen_ok]
  have hs : (program).run PP w = .ok PP w := rfl
  simp only [hs, Result.andThen_ok, word_stood, Bool.false_eq_true, if_false]
  simp [← Array.forIn_toList, p2, p3, p4, e2, e46]
section
variable {w0 : World} {n : Nat} {sh : Shared} {Q : Exit → Env → List Deferred → List Asn → Prop} {k : List Item} {ρ : Env} {df : List Deferred} {Γ : List Asn}
variable {ops : Array Oper} {l : List (Fl × Nat × Oper)} {bf : Fl} {i d : Nat} {ty : TypeId} {pos : String} {aft : Array Edge} {x y : Operand} {yt : TypeId}
theorem reg_ne_word {a b c a' b' c' : Int} (hx : ev ρ x = .agg #[.int .i64 a, .int .u32 b, .int .u32 c]) (hy : ev ρ y = .agg #[.int .i64 a', .int .u32 b', .int .u32 c']) (he : a = a' ∧ b = b' ∧ c = c')
    (h : Reg PP w0 n sh Q ops l k (ρ.set d (.bool false)) df Γ) : Reg PP w0 n sh Q ops ((bf, i, ⟨some d, .binOp .neq 68 x y yt, ty, pos, aft, none⟩) :: l) k ρ df Γ :=
  reg_quiet rfl (fun hF _ => quiet_of_run fun w => by
    obtain ⟨rfl, rfl, rfl⟩ := he
    have hs : (program).run PP w = .ok PP w := rfl
    have hg : (eqGuard .neq 68 x y (.agg #[.int .i64 a, .int .u32 b, .int .u32 c]) (.agg #[.int .i64 a, .int .u32 b, .int .u32 c])).run PP w = .ok () w := by
      simp [eqGuard, hs, word_guard]
    have hb : (binOp .neq 68 (.agg #[.int .i64 a, .int .u32 b, .int .u32 c]) (.agg #[.int .i64 a, .int .u32 b, .int .u32 c])).run PP w = .ok (.bool false) w := by
      show (do let r ← Op.equal _ _ _; pure (Value.bool (!r)) : Sem Value).run PP w = _
      simp [word_equal]
    simp only [execOp, hx, hy, Sem.run_bind, hg, hb, Result.andThen_ok, Sem.run_pure]) h
end
end Go.Proofs.YtloekplbhknepaaGreat

namespace Sim
open Go Go.Vc
structure WOk (T : Int) (kn : List (Int × Wd)) : Prop where
  nd : (kn.map (·.1)).Nodup
  wd : ∀ a w, lookW kn a = some w → w.ref = 0 ∧ 0 ≤ w.ver ∧ w.ver ≤ T ∧ 0 ≤ a ∧ a < 4096
theorem keys_look : ∀ (kn : List (Int × Wd)), (kn.map (·.1)).Nodup → ∀ (q : Nat) a w, kn[q]? = some (a, w) → lookW kn a = some w
  | [], _, q, a, w, h => by simp at h
  | (b, u) :: r, hn, 0, a, w, h => by simp at h; obtain ⟨rfl, rfl⟩ := h; simp [lookW]
  | (b, u) :: r, hn, q + 1, a, w, h => by
    rw [List.map_cons, List.nodup_cons] at hn
    have h : r[q]? = some (a, w) := by simpa using h
    have ih := keys_look r hn.2 q a w h
    have hne : b ≠ a := fun e => hn.1 (e ▸ List.mem_map.2 ⟨(a, w), List.mem_of_getElem? h, rfl⟩)
    simp [lookW, hne, ih]
theorem look_none : ∀ (kn : List (Int × Wd)) (a : Int), lookW kn a = none ↔ a ∉ kn.map (·.1)
  | [], a => by simp [lookW]
  | (b, u) :: r, a => by
    simp only [lookW, List.map_cons, List.mem_cons, not_or]
    by_cases h : b = a
    · subst h; simp
    · rw [if_neg h, look_none r a]
      exact ⟨fun h2 => ⟨fun e => h e.symm, h2⟩, fun h2 => h2.2⟩
theorem insW_keys : ∀ (kn : List (Int × Wd)) (a : Int) (w : Wd), (kn.map (·.1)).Nodup → ((insW kn a w).map (·.1)).Nodup
  | [], a, w, _ => by simp [insW]
  | (b, u) :: r, a, w, h => by
    rw [List.map_cons, List.nodup_cons] at h
    simp only [insW]
    by_cases e : b = a
    · rw [if_pos e, List.map_cons, List.nodup_cons]; exact h
    · rw [if_neg e, List.map_cons, List.nodup_cons]
      refine ⟨fun hm => ?_, insW_keys r a w h.2⟩
      by_cases hb : lookW r b = none
      · have h2 := look_insW r a b w
        rw [if_neg (fun e2 => e e2.symm), hb] at h2
        exact (look_none _ _).1 h2 hm
      · exact hb ((look_none _ _).2 h.1)
def nextW (kn : List (Int × Wd)) (s : Sp) (a : Int) : Option Wd := (lookW kn a).map fun w => if (s.value a).2 = true then ⟨(s.value a).1, w.ver + 1, 0⟩ else w
theorem lastV_some : ∀ (l : List (Int × Int)) (a : Int), lastV l a ≠ none → ∃ p ∈ l, p.1 = a
  | [], a, h => absurd rfl h
  | (b, v) :: l, a, h => by
    simp only [lastV] at h
    by_cases h2 : lastV l a = none
    · rw [h2] at h
      by_cases e : b = a
      · exact ⟨(b, v), by simp, e⟩
      · simp [e] at h
    · obtain ⟨p, hp, h3⟩ := lastV_some l a h2
      exact ⟨p, by simp [hp], h3⟩
theorem value_put {s : Sp} {a : Int} (h : (s.value a).2 = true) : ∃ p ∈ s.puts, p.1 = a := by
  refine lastV_some s.puts a fun e => ?_
  simp only [Sp.value, e] at h
  cases h
theorem value_wr {s : Sp} {p : Int × Int} (h : p ∈ s.puts) : (s.value p.1).2 = true := by
  cases hl : lastV s.puts p.1 with
  | some v => simp only [Sp.value, hl]
  | none =>
    exfalso
    have key : ∀ l : List (Int × Int), p ∈ l → lastV l p.1 ≠ none := by
      intro l
      induction l with
      | nil => intro h; cases h
      | cons q l ih =>
        intro h
        obtain ⟨b, v⟩ := q
        simp only [lastV]
        cases h2 : lastV l p.1 with
        | some u => simp
        | none =>
          rcases List.mem_cons.1 h with h3 | h3
          · subst h3; simp
          · exact absurd h2 (ih h3)
    exact key _ h hl
theorem value_not {s : Sp} {a : Int} (h : (s.value a).2 = false) : (s.value a).1 = match lookW s.kn a with | some w => w.val | none => 0 := by
  simp only [Sp.value] at h ⊢
  cases hl : lastV s.puts a with
  | some v => rw [hl] at h; cases h
  | none => rfl
theorem nextW_ok {T : Int} {kn : List (Int × Wd)} {s : Sp} {kn2 : List (Int × Wd)} (h : WOk T kn) (hk : (kn2.map (·.1)).Nodup) (h2 : ∀ a, lookW kn2 a = nextW kn s a) : WOk (T + 1) kn2 := by
  refine ⟨hk, fun a w hw => ?_⟩
  rw [h2, nextW] at hw
  cases h3 : lookW kn a with
  | none => rw [h3] at hw; cases hw
  | some u =>
    rw [h3] at hw
    obtain ⟨g1, g2, g3, g4, g5⟩ := h.wd a u h3
    have := (Option.some.inj hw).symm
    subst this
    split
    · exact ⟨rfl, by dsimp only; omega, by dsimp only; omega, g4, g5⟩
    · exact ⟨g1, g2, Int.le_trans g3 (by omega), g4, g5⟩
def partW (kn : List (Int × Wd)) (s : Sp) (l : List Int) (a : Int) : Option Wd := if a ∈ l then nextW kn s a else lookW kn a
theorem partW_nil (kn : List (Int × Wd)) (s : Sp) (a : Int) : partW kn s [] a = lookW kn a := by simp [partW]
theorem partW_snoc (kn : List (Int × Wd)) (s : Sp) (l : List Int) (x a : Int) : partW kn s (l ++ [x]) a = if x = a then nextW kn s a else partW kn s l a := by
  unfold partW
  by_cases h : x = a
  · subst h; simp
  · have : a ∈ l ++ [x] ↔ a ∈ l := by simp [Ne.symm h]
    simp [h, this]
theorem partW_all {kn : List (Int × Wd)} {s : Sp} {l : List Int} (h : ∀ p ∈ s.puts, p.1 ∈ l) (a : Int) : partW kn s l a = nextW kn s a := by
  unfold partW
  by_cases hm : a ∈ l
  · rw [if_pos hm]
  · rw [if_neg hm]
    have : (s.value a).2 = false := by
      cases hv : (s.value a).2 with
      | false => rfl
      | true =>
        obtain ⟨p, hp, e⟩ := value_put hv
        exact absurd (e ▸ h p hp) hm
    unfold nextW
    rw [this]
    cases lookW kn a <;> rfl
end Sim
namespace Go.Proofs.YtloekplbhknepaaGreat
open Go.Vc Sim
theorem idx_none : ∀ (l : List En) (x k : Int), (∀ e ∈ l, e.loc ≠ x) → idxI x l k = -1
  | [], x, k, _ => rfl
  | e :: l, x, k, h => by
    simp only [idxI]
    rw [if_neg (h e (by simp))]
    exact idx_none l x (k + 1) (fun e he => h e (by simp [he]))
theorem chk_ok (es : List En) (h1 : ∀ e ∈ es, wrongI e = 0) (h2 : (es.map (·.loc)).Nodup) : ∀ (l : List En) (i : Nat), es.drop i = l → chkI es l i = 0
  | [], _, _ => rfl
  | e :: l, i, h => by
    have hi : i < es.length := by
      by_cases hi : i < es.length
      · exact hi
      · rw [List.drop_of_length_le (by omega)] at h; cases h
    have he : es[i]? = some e := by
      have := List.drop_eq_getElem_cons hi
      rw [h] at this
      rw [List.getElem?_eq_getElem hi]
      exact congrArg some (List.cons.inj this).1.symm
    simp only [chkI]
    rw [if_neg (fun hw => hw (h1 e (List.mem_of_getElem? he)))]
    have hno : idxI e.loc (es.take i) 0 = -1 := by
      refine idx_none _ _ _ fun e' he' hloc => ?_
      obtain ⟨j, hj⟩ := List.mem_iff_getElem?.1 he'
      have hji : j < i := by
        have := (List.getElem?_eq_some_iff.1 hj).1
        simp at this; omega
      rw [List.getElem?_take_of_lt hji] at hj
      have hm1 : (es.map (·.loc))[j]? = some e.loc := by simp [hj, hloc]
      have hm2 : (es.map (·.loc))[i]? = some e.loc := by simp [he]
      have := (List.getElem?_inj (by simp; omega) h2).1 (hm1.trans hm2.symm)
      omega
    rw [hno, if_neg (by decide)]
    refine chk_ok es h1 h2 l (i + 1) ?_
    rw [List.drop_eq_getElem_cons hi] at h
    exact (List.cons.inj h).2
theorem check_ok {T : Int} {kn : List (Int × Wd)} {s : Sp} (hT : T ≤ 1000000) (hw : WOk T kn) (hs : Wf s) (hk : ∀ a, lookW s.kn a = lookW kn a) (hne : (esOf s).length ≠ 0) : checkI (esOf s) = 0 ∨ checkI (esOf s) = 15 := by
  unfold checkI
  rw [if_neg hne]
  by_cases h : 32 < (esOf s).length
  · rw [if_pos h]; exact .inr rfl
  · rw [if_neg h]
    left
    have hmem : ∀ e ∈ esOf s, ∃ x ∈ s.rd, e = entE s x := fun e he => by
      unfold esOf at he
      obtain ⟨x, hx, rfl⟩ := List.mem_map.1 he
      exact ⟨x, List.mem_mergeSort.1 hx, rfl⟩
    refine chk_ok _ (fun e he => ?_) ?_ _ 0 rfl
    · obtain ⟨x, hx, rfl⟩ := hmem e he
      have h2 := hs.rk x hx
      obtain ⟨w, hlw⟩ : ∃ w, lookW s.kn x = some w := by
        cases h3 : lookW s.kn x with
        | none => exact absurd h3 h2
        | some w => exact ⟨w, rfl⟩
      obtain ⟨g1, g2, g3, g4, g5⟩ := hw.wd x w (by rw [← hk]; exact hlw)
      have ho : oldW s x = w := by unfold oldW; rw [hlw]
      unfold wrongI entE
      dsimp only
      rw [ho]
      rw [if_neg (by omega), if_neg (by rintro ⟨_, h4⟩; omega)]
      rw [if_neg]
      rintro ⟨h4, h5⟩
      have := value_not h4
      rw [hlw] at this
      exact h5 this
    · have : (esOf s).map (·.loc) = s.rd.mergeSort leI := by
        unfold esOf
        rw [List.map_map]
        exact List.map_id _
      rw [this]
      exact (List.mergeSort_perm s.rd leI).nodup_iff.2 hs.nd
theorem entries_cases {T : Int} {kn : List (Int × Wd)} {s : Sp} (hT : T ≤ 1000000) (hw : WOk T kn) (hs : Wf s) (hl : s.ended = false) (hk : ∀ a, lookW s.kn a = lookW kn a) :
    (Sp.entries s = (esOf s, 0)) ∨ (Sp.entries s = ([], 15)) := by
  unfold Sp.entries
  rw [if_neg (by rw [hl]; decide)]
  by_cases h0 : (esOf s).length = 0
  · rw [if_pos h0]
    left
    rw [List.length_eq_zero_iff.1 h0]
  · rw [if_neg h0]
    rcases check_ok hT hw hs hk h0 with h | h
    · rw [if_neg (fun h2 => h2 h)]; exact .inl rfl
    · rw [if_pos (by rw [h]; decide), h]; exact .inr rfl
end Go.Proofs.YtloekplbhknepaaGreat

namespace Sim
open Go Go.Vc
theorem nodup_bd : ∀ (n : Nat) (l : List Int), l.Nodup → (∀ x ∈ l, 0 ≤ x ∧ x < n) → l.length ≤ n
  | 0, l, _, h => by
    cases l with
    | nil => exact Nat.le_refl _
    | cons a l => have := h a (by simp); omega
  | n + 1, l, hn, h => by
    by_cases hm : (n : Int) ∈ l
    · have h1 := nodup_bd n (l.erase n) (hn.erase _) (fun x hx => by
        have h2 := h x (List.mem_of_mem_erase hx)
        have h3 : x ≠ n := fun e => by subst e; exact (List.Nodup.not_mem_erase hn) hx
        omega)
      have h2 := List.length_erase_of_mem hm
      omega
    · have := nodup_bd n l hn (fun x hx => by
        have h2 := h x hx
        have h3 : x ≠ n := fun e => hm (e ▸ hx)
        omega)
      omega
end Sim
namespace Go.Proofs.YtloekplbhknepaaGreat
open Go.Vc Sim
set_option maxHeartbeats 8000000
theorem wrap_u32 {m : Int} (h0 : 0 ≤ m) (h1 : m ≤ 4294967295) : IntKind.u32.wrap m = m := by
  simp only [IntKind.wrap, IntKind.bits, IntKind.signed]
  simp
  omega
theorem get_live {s : Sp} {x : Int} {w : Wd} (hl : s.ended = false) (hk : lookW s.kn x = some w) : s.get x = ((s.value x).1, { s with rd := insI s.rd x }) := by
  have : s.reads x = (true, { s with rd := insI s.rd x }) := by simp [Sp.reads, hl, hk]
  simp only [Sp.get, this, if_true]
  rfl
structure Left (s s' : Sp) : Prop where
  live : s'.ended = false
  wf : Wf s'
  kn : s'.kn = s.kn
  few : s'.puts.length < 60000
theorem done_spec {σ : Type} (w0 : World) (shc : Shared) (wb : Nat) (kn : List (Int × Wd)) (T : Int) (hT : T ≤ 1000000) (hw : WOk T kn) (f : FuncId) (cap : Array Value) (A : Asn) (A' : σ → Asn) (ψ : σ → Sp → Prop)
    (hdo : ∀ p s, s.puts = [] → s.rd = [] → s.ended = false → (∀ a, lookW s.kn a = lookW kn a) →
      Vc.Fn PP w0 shc f (spP p :: cap.toList) [SpaceA p s, A] (fun v Γ => ∃ st s', v = .tuple #[] ∧ Γ = [SpaceA p s', A' st] ∧ Left s s' ∧ ψ st s')) :
    Vc.Fn PP w0 ((wb, mapI (knM kn)) :: shc) 19 [.map (some wb), .func (.func f) #[] cap] [A]
      (fun v Γ => ∃ st s' nb a len c kn2, v = .tuple #[.map (some nb), .slice a len c, .bool true] ∧ Γ = [pt nb (mapI (knM kn2)), A' st] ∧ ψ st s' ∧ WOk (T + 1) kn2 ∧ ∀ a, lookW kn2 a = nextW kn s' a) := by
  refine fn_of_run en19 fn19 rfl rfl rfl ?_
  repeat (first | refine zck ?_ | refine zcl ?_ | refine zcm ?_ | refine zcn ?_)
  first | refine zcp (by kernel_rfl) ?_ | refine zcr [(.quiet, 0), (.quiet, 1), (.quiet, 2), (.quiet, 3), (.loud, 4), (.quiet, 5), (.quiet, 6), (.loud, 7), (.quiet, 8), (.quiet, 9), (.quiet, 10), (.loud, 11)] PP_mixed (by kernel_rfl) (by kernel_rfl) ?_ | refine zcq PP_mixed (by kernel_rfl) (by kernel_rfl) ?_
  repeat' (refine zap rfl ?_; first | refine zan rfl ?_)
  all_goals refine zch ?_
  all_goals repeat (first | refine zck ?_ | refine zcl ?_ | refine zcm ?_ | refine zcn ?_)
  have hN := new_sh w0 wb kn (fun q a w h => ⟨keys_look kn hw.nd q a w h, (hw.wd a w (keys_look kn hw.nd q a w h)).1⟩)
  repeat (first | refine zck ?_ | refine zcl ?_ | refine zcm ?_ | refine zcn ?_)
  first | refine zcp (by kernel_rfl) ?_ | refine zcr [(.quiet, 0), (.quiet, 1), (.quiet, 2), (.quiet, 3), (.loud, 4), (.quiet, 5), (.quiet, 6), (.loud, 7), (.quiet, 8), (.quiet, 9), (.quiet, 10), (.loud, 11)] PP_mixed (by kernel_rfl) (by kernel_rfl) ?_ | refine zcq PP_mixed (by kernel_rfl) (by kernel_rfl) ?_
  repeat' (refine zap rfl ?_; first | (refine zai [] hN rfl rfl rfl (fun q hq => by simp only [List.mem_singleton] at hq; subst hq; exact .head _) ?_; rintro v Γ' ⟨p, kn', rfl, rfl, hkn'⟩) | refine zan rfl ?_ | refine zan rfl ?_)
  all_goals refine zch ?_
  all_goals repeat (first | refine zck ?_ | refine zcl ?_ | refine zcm ?_ | refine zcn ?_)
  repeat (first | refine zck ?_ | refine zcl ?_ | refine zcm ?_ | refine zcn ?_)
  first | refine zcp (by kernel_rfl) ?_ | refine zcr [(.quiet, 0), (.quiet, 1), (.quiet, 2), (.quiet, 3), (.loud, 4), (.quiet, 5), (.quiet, 6), (.loud, 7), (.quiet, 8), (.quiet, 9), (.quiet, 10), (.loud, 11)] PP_mixed (by kernel_rfl) (by kernel_rfl) ?_ | refine zcq PP_mixed (by kernel_rfl) (by kernel_rfl) ?_
  repeat' (refine zap rfl ?_; first | (refine zai [0, 0] (hdo p ⟨kn', [], [], 0, false⟩ rfl rfl rfl hkn') rfl rfl rfl (fun q hq => .tail _ hq) ?_; rintro v Γ' ⟨st, s, rfl, rfl, hL, hψ⟩) | refine zan rfl ?_)
  all_goals refine zch ?_
  all_goals repeat (first | refine zck ?_ | refine zcl ?_ | refine zcm ?_ | refine zcn ?_)
  have hks : ∀ a, lookW s.kn a = lookW kn a := fun a => by rw [hL.kn]; exact hkn' a
  have hrd : s.rd.length ≤ 4096 := nodup_bd 4096 s.rd hL.wf.nd (fun x hx => by
    cases h : lookW kn x with
    | none => exact absurd ((hks x).trans h) (hL.wf.rk x hx)
    | some w => have := hw.wd x w h; omega)
  have hfew := hL.few
  have hE := ents_spec w0 p s (by omega) (by omega) (fun x w h => (hw.wd x w ((hks x).symm.trans h)).1)
  have hcs := entries_cases hT hw hL.wf hL.live hks
  have hes : (Sp.entries s).1.length ≤ 4096 := by
    rcases hcs with h | h <;> rw [h]
    · show (esOf s).length ≤ 4096
      rw [esOf, List.length_map, List.length_mergeSort]; exact hrd
    · exact Nat.zero_le _
  repeat (first | refine zck ?_ | refine zcl ?_ | refine zcm ?_ | refine zcn ?_)
  first | refine zcp (by kernel_rfl) ?_ | refine zcr [(.quiet, 0), (.quiet, 1), (.quiet, 2), (.quiet, 3), (.loud, 4), (.quiet, 5), (.quiet, 6), (.loud, 7), (.quiet, 8), (.quiet, 9), (.quiet, 10), (.loud, 11)] PP_mixed (by kernel_rfl) (by kernel_rfl) ?_ | refine zcq PP_mixed (by kernel_rfl) (by kernel_rfl) ?_
  repeat' (refine zap rfl ?_; first | (refine zai [0] hE rfl rfl rfl sub_nil ?_; rintro v Γ' ⟨ea, ecap, rfl, rfl⟩) | refine zan rfl ?_ | refine zan rfl ?_ | refine zan rfl ?_)
  all_goals refine zch ?_
  all_goals repeat (first | refine zck ?_ | refine zcl ?_ | refine zcm ?_ | refine zcn ?_)
  repeat (first | refine zck ?_ | refine zcl ?_ | refine zcm ?_ | refine zcn ?_)
  first | refine zcp (by kernel_rfl) ?_ | refine zcr [(.quiet, 0), (.quiet, 1), (.quiet, 2), (.quiet, 3), (.loud, 4), (.quiet, 5), (.quiet, 6), (.loud, 7), (.quiet, 8), (.quiet, 9), (.quiet, 10), (.loud, 11)] PP_mixed (by kernel_rfl) (by kernel_rfl) ?_ | refine zcq PP_mixed (by kernel_rfl) (by kernel_rfl) ?_
  repeat' (refine zap rfl ?_; first | refine zan rfl ?_ | refine zcc (fun nb => ?_))
  all_goals refine zch ?_
  all_goals repeat (first | refine zck ?_ | refine zcl ?_ | refine zcm ?_ | refine zcn ?_)
  revert nb; intro nx
  repeat (first | refine zck ?_ | refine zcl ?_ | refine zcm ?_ | refine zcn ?_)
  first | refine zcp (by kernel_rfl) ?_ | refine zcr [(.quiet, 0), (.quiet, 1), (.quiet, 2), (.quiet, 3), (.loud, 4), (.quiet, 5), (.quiet, 6), (.loud, 7), (.quiet, 8), (.quiet, 9), (.quiet, 10), (.loud, 11)] PP_mixed (by kernel_rfl) (by kernel_rfl) ?_ | refine zcq PP_mixed (by kernel_rfl) (by kernel_rfl) ?_
  repeat' (refine zap rfl ?_; first | refine reg_rangeK rfl (sh_know 0 rfl) (fun nb => ?_) | refine zan rfl ?_)
  all_goals refine zch ?_
  all_goals repeat (refine zck ?_)
  revert nb; intro it
  have hel : ∀ (i : Nat) x, (Sp.entries s).1[i]? = some x → ∃ y, y ∈ s.rd ∧ x = entE s y ∧ (s.rd.mergeSort leI)[i]? = some y := fun i x hx => by
    rcases hcs with h | h <;> rw [h] at hx
    · dsimp only at hx
      rw [esOf, List.getElem?_map] at hx
      cases hy : (s.rd.mergeSort leI)[i]? with
      | none => rw [hy] at hx; cases hx
      | some y => rw [hy] at hx; exact ⟨y, List.mem_mergeSort.1 (List.mem_of_getElem? hy), (Option.some.inj hx).symm, rfl⟩
    · simp at hx
  have hfin : ((Sp.entries s).2 = 0 ∧ (Sp.entries s).1.length = s.rd.length) ∨ ((Sp.entries s).2 = 15 ∧ (Sp.entries s).1.length = 0) := by
    rcases hcs with h | h <;> rw [h]
    · exact .inl ⟨rfl, by rw [esOf, List.length_map, List.length_mergeSort]⟩
    · exact .inr ⟨rfl, rfl⟩
  clear hE hcs
  generalize hes0 : (Sp.entries s).1 = es at *
  generalize (Sp.entries s).2 = f at *
  refine run_bind_eq2 (σ := { kn2 : List (Int × Wd) // (kn2.map (·.1)).Nodup ∧ ∀ a, lookW kn2 a = lookW kn a })
    (l' := fun _ => [(0, .map (some wb)), (7, spP p), (8, .slice ea es.length ecap), (9, .int .i64 f), (10, .map (some nx))]) (Γ' := fun kn2 => [SpaceA p s, EnA ea ecap es, A' st, pt nx (mapI (knM kn2.1))]) ?_ ?_
  · refine zcl ?_
    refine run_loop (S := List (Int × Wd) × List Nat) (fun _ => [(0, .map (some wb)), (7, spP p), (8, .slice ea es.length ecap), (9, .int .i64 f), (10, .map (some nx)), (31, .pointer (some ⟨it, 0, none⟩))])
      (fun st' Γ => Γ = [SpaceA p s, EnA ea ecap es, A' st, pt nx (mapI (knM st'.1)), pt it (iterI wb (knM kn).length st'.2 (knM kn).length)] ∧ (∀ q ∈ st'.2, ∀ a w, kn[q]? = some (a, w) → lookW st'.1 a = some w) ∧ (∀ a w, lookW st'.1 a = some w → lookW kn a = some w) ∧ (st'.1.map (·.1)).Nodup)
      (fun st' => cnt kn.length st'.2) ([], []) ⟨rfl, rfl, rfl, rfl, rfl, rfl, trivial⟩ ⟨rfl, by simp, by simp [lookW], by simp⟩ ?_
    rintro ⟨kn2, seen⟩ Γ junk ⟨rfl, h1, h2, h3⟩
    dsimp only at h1 h2 h3 ⊢
    repeat (first | refine zck ?_ | refine zcl ?_ | refine zcm ?_ | refine zcn ?_ | refine zco ?_)
    refine zcp (by kernel_rfl) ?_
    refine zap rfl ?_
    refine reg_next 4 0 rfl rfl (sh_know 0 rfl) rfl (fun _ => rfl) (fun hall => ?_) (fun q e hq hns => ?_)
    · repeat' (first | refine zck ?_ | (refine zap rfl ?_; first | refine zan rfl ?_) | refine zch ?_ | refine zcj rfl ?_)
      refine cut_exit rfl rfl ?_
      refine run_take [0, 0, 0, 0] rfl ?_
      refine cut_end ⟨rfl, ⟨kn2, h3, fun a => ?_⟩, ⟨rfl, rfl, rfl, rfl, rfl, trivial⟩, rfl⟩
      cases hk : lookW kn a with
      | none =>
        cases hk' : lookW kn2 a with
        | none => rfl
        | some w => have := h2 a w hk'; rw [hk] at this; cases this
      | some w =>
        obtain ⟨q, hq⟩ := lookW_mem kn a w hk
        have hql := (List.getElem?_eq_some_iff.1 hq).1
        exact h1 q (hall q (by rw [knM_length]; exact hql)) a w hq
    · rw [knM_get] at hq
      obtain ⟨⟨a, w⟩, hq2, rfl⟩ : ∃ aw, kn[q]? = some aw ∧ e = (aw.1, wordV aw.2) := by
        cases h : kn[q]? with
        | none => rw [h] at hq; cases hq
        | some aw => rw [h] at hq; exact ⟨aw, rfl, (Option.some.inj hq).symm⟩
      have hk1 := keys_look kn hw.nd q a w hq2
      have hql := (List.getElem?_eq_some_iff.1 hq2).1
      have hq3 : (knM kn)[q]? = some (a, wordV w) := by rw [knM_get, hq2]; rfl
      repeat' (refine zap rfl ?_; first | refine zan rfl ?_)
      refine zch ?_
      repeat (first | refine zck ?_ | refine zcl ?_ | refine zcm ?_ | refine zcn ?_ | refine zco ?_)
      refine zci rfl ?_
      repeat (first | refine zck ?_ | refine zcl ?_ | refine zcm ?_ | refine zcn ?_ | refine zco ?_)
      repeat (first | refine zck ?_ | refine zcl ?_ | refine zcm ?_ | refine zcn ?_)
      first | refine zcp (by kernel_rfl) ?_ | refine zcr [(.quiet, 0), (.quiet, 1), (.quiet, 2), (.quiet, 3), (.loud, 4), (.quiet, 5), (.quiet, 6), (.loud, 7), (.quiet, 8), (.quiet, 9), (.quiet, 10), (.loud, 11)] PP_mixed (by kernel_rfl) (by kernel_rfl) ?_ | refine zcq PP_mixed (by kernel_rfl) (by kernel_rfl) ?_
      repeat' (refine zap rfl ?_; first | refine reg_entry 4 rfl rfl (sh_know 0 rfl) hq3 ?_ | refine zan rfl ?_ | refine zan rfl ?_ | refine zae 5 rfl rfl rfl rfl rfl rfl rfl ?_ | refine zar (fun nb => ?_))
      all_goals refine zch ?_
      all_goals repeat (first | refine zck ?_ | refine zcl ?_ | refine zcm ?_ | refine zcn ?_)
      refine run_share [5] rfl ?_
      repeat' (first | refine zcp (by kernel_rfl) ?_ | refine zcn ?_ | (refine zap rfl ?_; first | refine reg_mapUpdate 3 rfl rfl rfl rfl rfl ?_ | refine zan rfl ?_ | refine zaa 0 rfl rfl rfl ?_) | refine zch ?_)
      refine cut_end ⟨rfl, (insW kn2 a w, seen ++ [q]), ⟨rfl, rfl, rfl, rfl, rfl, rfl, trivial⟩, ⟨?_, ?_, ?_, insW_keys _ _ _ h3⟩, ?_⟩
      · show _ = [_, _, _, pt nx (mapI (knM (insW kn2 a w))), _]
        rw [← ins_knM]; rfl
      · intro q' hq' a' w' h
        rw [look_insW]
        rcases List.mem_append.1 hq' with hq' | hq'
        · have := h1 q' hq' a' w' h
          by_cases e : a = a'
          · subst e; rw [if_pos rfl]
            have := keys_look kn hw.nd q' a w' h
            rw [hk1] at this; exact this
          · rw [if_neg e]; exact this
        · simp at hq'; subst hq'
          rw [hq2] at h; cases h; rw [if_pos rfl]
      · intro a' w' h
        rw [look_insW] at h
        by_cases e : a = a'
        · subst e; rw [if_pos rfl] at h; cases h; exact hk1
        · rw [if_neg e] at h; exact h2 a' w' h
      · have := (cnt_more q seen hns kn.length).2 hql
        dsimp only; omega
  rintro ⟨kn2, hn2, hk2⟩ junk
  dsimp only
  repeat (first | refine zck ?_ | refine zcl ?_ | refine zcm ?_ | refine zcn ?_)
  first | refine zcp (by kernel_rfl) ?_ | refine zcr [(.quiet, 0), (.quiet, 1), (.quiet, 2), (.quiet, 3), (.loud, 4), (.quiet, 5), (.quiet, 6), (.loud, 7), (.quiet, 8), (.quiet, 9), (.quiet, 10), (.loud, 11)] PP_mixed (by kernel_rfl) (by kernel_rfl) ?_ | refine zcq PP_mixed (by kernel_rfl) (by kernel_rfl) ?_
  repeat' (refine zap rfl ?_; first | refine zan rfl ?_ | refine zce rfl ?_)
  all_goals refine zch ?_
  all_goals repeat (refine zck ?_)
  refine run_bind_eq2 (σ := { kn3 : List (Int × Wd) // (kn3.map (·.1)).Nodup ∧ ∀ a, lookW kn3 a = partW kn s ((s.rd.mergeSort leI).take es.length) a })
    (l' := fun _ => [(0, .map (some wb)), (7, spP p), (8, .slice ea es.length ecap), (9, .int .i64 f), (10, .map (some nx))]) (Γ' := fun kn3 => [SpaceA p s, A' st, pt nx (mapI (knM kn3.1))]) ?_ ?_
  · refine zcl ?_
    refine run_loop (S := Nat × List (Int × Wd)) (fun st' => [(0, .map (some wb)), (7, spP p), (8, .slice ea es.length ecap), (9, .int .i64 f), (10, .map (some nx)), (40, .slice ea es.length ecap), (41, .int .i64 (es.length : Int)), (42, .int .i64 (st'.1 : Int))])
      (fun st' Γ => Γ = [SpaceA p s, EnA ea ecap es, A' st, pt nx (mapI (knM st'.2))] ∧ st'.1 ≤ es.length ∧ (st'.2.map (·.1)).Nodup ∧ ∀ a, lookW st'.2 a = partW kn s ((s.rd.mergeSort leI).take st'.1) a)
      (fun st' => es.length - st'.1) (0, kn2) ⟨rfl, rfl, rfl, rfl, rfl, rfl, rfl, rfl, trivial⟩ ⟨rfl, Nat.zero_le _, hn2, fun a => by rw [List.take_zero, partW_nil]; exact hk2 a⟩ ?_
    rintro ⟨j, kn3⟩ Γ junk ⟨rfl, h1, h2, h3⟩
    dsimp only at h1 h2 h3 ⊢
    by_cases hj : j < es.length
    · obtain ⟨x, hx⟩ : ∃ x, es[j]? = some x := ⟨_, List.getElem?_eq_getElem hj⟩
      obtain ⟨y, hy1, rfl, hy2⟩ := hel j x hx
      obtain ⟨wy, hwy⟩ : ∃ w, lookW kn y = some w := by
        cases h : lookW kn y with
        | none => exact absurd ((hks y).trans h) (hL.wf.rk y hy1)
        | some w => exact ⟨w, rfl⟩
      obtain ⟨v1, v2, v3, v4, v5⟩ := hw.wd y wy hwy
      have hold : oldW s y = wy := by unfold oldW; rw [hks, hwy]
      obtain ⟨w3, hw3⟩ : ∃ w3, lookW kn3 y = some w3 := by
        rw [h3]; unfold partW nextW
        split
        · rw [hwy]; exact ⟨_, rfl⟩
        · exact ⟨wy, hwy⟩
      have hl3 : Vc.look (knM kn3) y = some (wordV w3) := by rw [look_knM, hw3]; rfl
      have hlk : (Vc.look (knM kn) y).getD (.agg #[.int .i64 0, .int .u32 0, .int .u32 0]) = .agg #[.int .i64 wy.val, .int .u32 wy.ver, .int .u32 wy.ref] := by rw [look_knM, hwy]; rfl
      have hr : ∀ o, o = j * 6 → rd true 6 (flatE es) o = some (.agg (List.toArray [.int .i64 y, .int .i64 wy.val, .int .u32 wy.ver, .int .u32 wy.ref, .int .i64 (s.value y).1, .bool (s.value y).2])) := fun o ho => by
        rw [← hold]; exact flatE_rd hx o ho
      have ht : (s.rd.mergeSort leI).take (j + 1) = (s.rd.mergeSort leI).take j ++ [y] := by rw [List.take_add_one, hy2]; rfl
      have hwr : IntKind.u32.wrap (wy.ver + 1) = wy.ver + 1 := wrap_u32 (by omega) (by omega)
      refine run_sl_cases 1 rfl (fun _ h _ _ => absurd h (by omega)) ?_
      intro bb k1 k2 k3
      subst k1
      repeat' (first | refine zck ?_ | refine zcp (by kernel_rfl) ?_ | refine zcm ?_ | refine zcl ?_ | (refine zap rfl ?_; first | refine zag 1 rfl rfl (hr _ (by omega)) (by intro h; decide) ?_ | refine reg_lookupOk 3 rfl rfl rfl hl3 ?_ | refine reg_lookup_sh 0 rfl rfl rfl hlk ?_ | refine reg_ne_word rfl rfl ⟨rfl, rfl, rfl⟩ ?_ | refine zaj rfl ?_ | refine zan rfl ?_ | refine zan rfl ?_ | refine zab 4 rfl rfl rfl ?_ | refine zao rfl ?_ | refine zan rfl ?_ | refine zbg rfl rfl (by omega) ?_ | refine zbx rfl ?_ | refine zbv rfl ?_ | refine zae 4 rfl rfl rfl rfl rfl rfl rfl ?_ | refine zae 5 rfl rfl rfl rfl rfl rfl rfl ?_ | refine zas rfl rfl (by omega) ?_ | refine zar (fun nb => ?_)) | refine zch ?_ | refine zci rfl ?_ | refine zcj rfl ?_)
      refine run_condV rfl (fun hE => ?_) (fun hE => ?_)
      · have hE : (s.value y).2 = true := hE
        repeat' (first | refine zcp (by kernel_rfl) ?_ | refine zcn ?_ | (refine zap rfl ?_; first | (refine reg_add (t := 66) rfl rfl ?_; rw [hwr]) | refine reg_mapUpdate 3 rfl rfl rfl rfl rfl ?_ | refine zan rfl ?_ | refine zab 4 rfl rfl rfl ?_ | refine zao rfl ?_ | refine zau rfl rfl (by omega) ?_ | refine zcb rfl ?_) | refine zch ?_)
        refine run_take [0, 0, 0, 0] rfl ?_
        refine cut_end ⟨rfl, (j + 1, insW kn3 y ⟨(s.value y).1, wy.ver + 1, 0⟩), ⟨rfl, rfl, rfl, rfl, rfl, rfl, rfl, int_eq (by dsimp only; omega), trivial⟩, ⟨?_, by dsimp only; omega, insW_keys _ _ _ h2, fun a => ?_⟩, by dsimp only; omega⟩
        · show _ = [_, _, _, pt nx (mapI (knM (insW kn3 y _)))]
          rw [← ins_knM]; rfl
        · dsimp only
          rw [look_insW, ht, partW_snoc, h3]
          by_cases e : y = a
          · subst e
            rw [if_pos rfl, if_pos rfl, nextW, hwy]
            simp [hE]
          · rw [if_neg e, if_neg e]
      · have hE : (s.value y).2 = false := hE
        repeat' (first | refine zcp (by kernel_rfl) ?_ | refine zcm ?_ | refine zcn ?_ | (refine zap rfl ?_; first | refine zan rfl ?_ | refine zau rfl rfl (by omega) ?_) | refine zch ?_)
        refine run_take [0, 0, 0, 0] rfl ?_
        refine cut_end ⟨rfl, (j + 1, kn3), ⟨rfl, rfl, rfl, rfl, rfl, rfl, rfl, int_eq (by dsimp only; omega), trivial⟩, ⟨rfl, by dsimp only; omega, h2, fun a => ?_⟩, by dsimp only; omega⟩
        dsimp only
        rw [ht, partW_snoc, h3]
        by_cases e : y = a
        · subst e
          rw [if_pos rfl]
          have : nextW kn s y = lookW kn y := by rw [nextW, hwy]; simp [hE]
          unfold partW
          split
          · rfl
          · exact this.symm
        · rw [if_neg e]
    · repeat' (first | refine zck ?_ | refine zcp (by kernel_rfl) ?_ | (refine zap rfl ?_; first | refine zbh rfl rfl (by omega) ?_) | refine zch ?_ | refine zcj rfl ?_)
      refine cut_exit rfl rfl ?_
      refine run_take [0, 1, 1] rfl ?_
      have e : j = es.length := by omega
      subst e
      exact cut_end ⟨rfl, ⟨kn3, h2, h3⟩, ⟨rfl, rfl, rfl, rfl, rfl, trivial⟩, rfl⟩
  rintro ⟨kn3, hn3, hk3⟩ junk
  dsimp only
  rcases hfin with ⟨rfl, hlen⟩ | ⟨rfl, hlen⟩
  · have hk4 : ∀ a, lookW kn3 a = nextW kn s a := fun a => by
      rw [hk3, hlen]
      refine partW_all (fun q hq => ?_) a
      rw [List.take_of_length_le (by rw [List.length_mergeSort]; omega), List.mem_mergeSort]
      exact hL.wf.pr q hq
    repeat' (first | refine zck ?_ | refine zcp (by kernel_rfl) ?_ | refine zcm ?_ | (refine zap rfl ?_; first | (refine zbx rfl ?_; rw [hL.live]) | refine zaj rfl ?_ | refine zak rfl ?_ | refine zan rfl ?_ | refine zan rfl ?_ | refine zah [0] (ended_spec w0 p s) rfl rfl rfl sub_nil rfl ?_ | refine zbc rfl rfl (by omega) ?_ | refine zbd rfl rfl (by omega) ?_ | refine zbu rfl ?_) | refine zch ?_ | refine zcj rfl ?_)
    refine run_take [2, 1] rfl ?_
    exact ret_tmp3 rfl ⟨st, s, nx, ea, es.length, ecap, kn3, rfl, rfl, hψ, nextW_ok hw hn3 hk4, hk4⟩
  · have hk5 : ∀ a, lookW kn3 a = lookW kn a := fun a => by rw [hk3, hlen, List.take_zero, partW_nil]
    repeat (first | refine zck ?_ | refine zcl ?_ | refine zcm ?_ | refine zcn ?_)
    first | refine zcp (by kernel_rfl) ?_ | refine zcr [(.quiet, 0), (.quiet, 1), (.quiet, 2), (.quiet, 3), (.loud, 4), (.quiet, 5), (.quiet, 6), (.loud, 7), (.quiet, 8), (.quiet, 9), (.quiet, 10), (.loud, 11)] PP_mixed (by kernel_rfl) (by kernel_rfl) ?_ | refine zcq PP_mixed (by kernel_rfl) (by kernel_rfl) ?_
    repeat' (refine zap rfl ?_; first | refine zan rfl ?_ | refine zbc rfl rfl (by omega) ?_)
    all_goals refine zch ?_
    all_goals repeat (first | refine zck ?_ | refine zcl ?_ | refine zcm ?_ | refine zcn ?_)
    refine run_bind_eq2 (σ := { q : Sp × List (Int × Wd) // q.1.ended = false ∧ (q.2.map (·.1)).Nodup ∧ ∀ a, lookW q.2 a = nextW kn s a })
      (l' := fun _ => [(0, .map (some wb)), (7, spP p), (8, .slice ea es.length ecap), (9, .int .i64 15), (10, .map (some nx))]) (Γ' := fun q => [SpaceA p q.1.1, A' st, pt nx (mapI (knM q.1.2))]) ?_ ?_
    · refine zci rfl ?_
      have hW := writes_spec w0 p s (by omega)
      have hwl : s.writes.length ≤ s.puts.length := by
        have := ddN_le ((s.puts.map (·.1)).mergeSort (fun x y => decide (x ≤ y))) ((s.puts.map (·.1)).mergeSort (fun x y => decide (x ≤ y))).length
        rw [List.length_mergeSort, List.length_map] at this
        unfold Sp.writes
        simp only [List.length_mergeSort, List.length_map]
        exact this
      repeat (first | refine zck ?_ | refine zcl ?_ | refine zcm ?_ | refine zcn ?_)
      first | refine zcp (by kernel_rfl) ?_ | refine zcr [(.quiet, 0), (.quiet, 1), (.quiet, 2), (.quiet, 3), (.loud, 4), (.quiet, 5), (.quiet, 6), (.loud, 7), (.quiet, 8), (.quiet, 9), (.quiet, 10), (.loud, 11)] PP_mixed (by kernel_rfl) (by kernel_rfl) ?_ | refine zcq PP_mixed (by kernel_rfl) (by kernel_rfl) ?_
      repeat' (refine zap rfl ?_; first | (refine zai [0] hW rfl rfl rfl sub_nil ?_; rintro v Γ' ⟨wa, wcap, rfl, rfl⟩) | refine zan rfl ?_ | refine zce rfl ?_)
      all_goals refine zch ?_
      all_goals repeat (refine zck ?_)
      refine zcl ?_
      refine run_loop (S := Nat × Sp × List (Int × Wd)) (fun st' => [(0, .map (some wb)), (7, spP p), (8, .slice ea es.length ecap), (9, .int .i64 15), (10, .map (some nx)), (81, .slice wa s.writes.length wcap), (82, .int .i64 (s.writes.length : Int)), (83, .int .i64 (st'.1 : Int))])
        (fun st' Γ => Γ = [SpaceA p st'.2.1, SlA 28 1 wa s.writes.length wcap (intsV s.writes), A' st, pt nx (mapI (knM st'.2.2))] ∧ st'.1 ≤ s.writes.length ∧ (st'.2.1.ended = false ∧ st'.2.1.kn = s.kn ∧ st'.2.1.puts = s.puts) ∧ (st'.2.2.map (·.1)).Nodup ∧ ∀ a, lookW st'.2.2 a = partW kn s (s.writes.take st'.1) a)
        (fun st' => s.writes.length - st'.1) (0, s, kn3) ⟨rfl, rfl, rfl, rfl, rfl, rfl, rfl, rfl, trivial⟩ ⟨rfl, Nat.zero_le _, ⟨hL.live, rfl, rfl⟩, hn3, fun a => by rw [List.take_zero, partW_nil]; exact hk5 a⟩ ?_
      rintro ⟨j, s2, kn4⟩ Γ junk ⟨rfl, h1, ⟨g1, g2, g3⟩, h2, h3⟩
      dsimp only at h1 g1 g2 g3 h2 h3 ⊢
      by_cases hj : j < s.writes.length
      · obtain ⟨y, hy⟩ : ∃ y, s.writes[j]? = some y := ⟨_, List.getElem?_eq_getElem hj⟩
        have hr := ints_rd hy
        obtain ⟨pq, hpq, hpy⟩ := (Sp.writes_mem y).1 (List.mem_of_getElem? hy)
        have hyrd := hL.wf.pr pq hpq
        rw [hpy] at hyrd
        obtain ⟨wy, hwy⟩ : ∃ w, lookW kn y = some w := by
          cases h : lookW kn y with
          | none => exact absurd ((hks y).trans h) (hL.wf.rk y hyrd)
          | some w => exact ⟨w, rfl⟩
        obtain ⟨v1, v2, v3, v4, v5⟩ := hw.wd y wy hwy
        have hE : (s.value y).2 = true := hpy ▸ value_wr hpq
        have hval : s2.value y = s.value y := by simp only [Sp.value, g2, g3]
        have hg := get_live (s := s2) (x := y) g1 (by rw [g2, hks]; exact hwy)
        have hG := get_spec w0 p s2 y (by rw [g3]; omega)
        rw [hg, hval] at hG
        have hlk : (Vc.look (knM kn) y).getD (.agg #[.int .i64 0, .int .u32 0, .int .u32 0]) = .agg #[.int .i64 wy.val, .int .u32 wy.ver, .int .u32 wy.ref] := by rw [look_knM, hwy]; rfl
        have ht : s.writes.take (j + 1) = s.writes.take j ++ [y] := by rw [List.take_add_one, hy]; rfl
        have hwr : IntKind.u32.wrap (wy.ver + 1) = wy.ver + 1 := wrap_u32 (by omega) (by omega)
        refine run_sl_cases 1 rfl (fun _ h _ _ => absurd h (by omega)) ?_
        intro bb k1 k2 k3
        subst k1
        repeat (first | refine zck ?_ | refine zcl ?_ | refine zcm ?_ | refine zcn ?_)
        first | refine zcp (by kernel_rfl) ?_ | refine zcr [(.quiet, 0), (.quiet, 1), (.quiet, 2), (.quiet, 3), (.loud, 4), (.quiet, 5), (.quiet, 6), (.loud, 7), (.quiet, 8), (.quiet, 9), (.quiet, 10), (.loud, 11)] PP_mixed (by kernel_rfl) (by kernel_rfl) ?_ | refine zcq PP_mixed (by kernel_rfl) (by kernel_rfl) ?_
        repeat' (refine zap rfl ?_; first | refine zbg rfl rfl (by omega) ?_)
        all_goals refine zch ?_
        all_goals repeat (first | refine zck ?_ | refine zcl ?_ | refine zcm ?_ | refine zcn ?_)
        refine zci rfl ?_
        repeat (first | refine zck ?_ | refine zcl ?_ | refine zcm ?_ | refine zcn ?_)
        first | refine zcp (by kernel_rfl) ?_ | refine zcr [(.quiet, 0), (.quiet, 1), (.quiet, 2), (.quiet, 3), (.loud, 4), (.quiet, 5), (.quiet, 6), (.loud, 7), (.quiet, 8), (.quiet, 9), (.quiet, 10), (.loud, 11)] PP_mixed (by kernel_rfl) (by kernel_rfl) ?_ | refine zcq PP_mixed (by kernel_rfl) (by kernel_rfl) ?_
        repeat' (refine zap rfl ?_; first | refine zag 1 rfl rfl (hr _ (by omega)) (by intro h; cases h) ?_ | refine zan rfl ?_ | refine zas rfl rfl (by omega) ?_)
        all_goals refine zch ?_
        all_goals repeat (refine zck ?_)
        refine zcr [(.quiet, 0), (.quiet, 1), (.quiet, 2), (.quiet, 3), (.loud, 4), (.quiet, 5), (.quiet, 6), (.quiet, 7), (.quiet, 8), (.quiet, 9), (.quiet, 10), (.loud, 11)] PP_mixed (by kernel_rfl) (by kernel_rfl) ?_
        repeat' (refine zap rfl ?_; first | refine reg_lookup_sh 0 rfl rfl rfl hlk ?_ | refine reg_fieldV rfl rfl ?_ | (refine reg_add (t := 66) rfl rfl ?_; rw [hwr]) | refine zcb rfl ?_ | refine reg_mapUpdate 3 rfl rfl rfl rfl rfl ?_ | refine zan rfl ?_ | refine zah [0] hG rfl rfl rfl sub_nil rfl ?_)
        refine zch ?_
        repeat' (first | refine zcp (by kernel_rfl) ?_ | refine zcn ?_ | (refine zap rfl ?_; first | refine zan rfl ?_ | refine zau rfl rfl (by omega) ?_) | refine zch ?_)
        refine cut_end ⟨rfl, (j + 1, { s2 with rd := insI s2.rd y }, insW kn4 y ⟨(s.value y).1, wy.ver + 1, 0⟩), ⟨rfl, rfl, rfl, rfl, rfl, rfl, rfl, int_eq (by dsimp only; omega), trivial⟩, ⟨?_, by dsimp only; omega, ⟨g1, g2, g3⟩, insW_keys _ _ _ h2, fun a => ?_⟩, by dsimp only; omega⟩
        · show _ = [_, _, _, pt nx (mapI (knM (insW kn4 y _)))]
          rw [← ins_knM]; rfl
        · dsimp only
          rw [look_insW, ht, partW_snoc, h3]
          by_cases e : y = a
          · subst e
            rw [if_pos rfl, if_pos rfl, nextW, hwy]
            simp [hE]
          · rw [if_neg e, if_neg e]
      · repeat' (first | refine zck ?_ | refine zcp (by kernel_rfl) ?_ | (refine zap rfl ?_; first | refine zbh rfl rfl (by omega) ?_) | refine zch ?_ | refine zcj rfl ?_)
        refine cut_exit rfl rfl ?_
        refine run_take [0, 1, 1] rfl ?_
        have e : j = s.writes.length := by omega
        subst e
        refine cut_end ⟨rfl, ⟨(s2, kn4), g1, h2, fun a => ?_⟩, ⟨rfl, rfl, rfl, rfl, rfl, trivial⟩, rfl⟩
        dsimp only
        rw [h3]
        refine partW_all (fun q hq => ?_) a
        rw [List.take_length]
        exact (Sp.writes_mem _).2 ⟨q, hq, rfl⟩
    · rintro ⟨⟨s2, kn4⟩, g1, hn4, hk4⟩ junk
      dsimp only at g1 hn4 hk4 ⊢
      repeat' (first | refine zck ?_ | refine zcp (by kernel_rfl) ?_ | (refine zap rfl ?_; first | (refine zbx rfl ?_; rw [g1]) | refine zaj rfl ?_ | refine zan rfl ?_ | refine zan rfl ?_ | refine zah [0] (ended_spec w0 p s2) rfl rfl rfl sub_nil rfl ?_ | refine zbc rfl rfl (by omega) ?_ | refine zbd rfl rfl (by omega) ?_ | refine zbu rfl ?_ | refine zbv rfl ?_) | refine zch ?_)
      refine run_take [2, 1] rfl ?_
      refine ret_tmp3 rfl ?_
      exact ⟨st, s, nx, ea, es.length, ecap, kn4, rfl, rfl, hψ, nextW_ok hw hn4 hk4, hk4⟩
end Go.Proofs.YtloekplbhknepaaGreat

namespace Sim
open Go Go.Vc
structure WM (N T : Int) (kn : List (Int × Wd)) (m : Int → Int) : Prop where
  ok : WOk T kn
  dom : ∀ a, lookW kn a ≠ none ↔ (0 ≤ a ∧ a < N)
  val : ∀ a, 0 ≤ a → a < N → valW kn a = m a
structure Cu (N : Int) (s0 s : Sp) (m : Int → Int) (j : Nat) : Prop where
  vw : Vw s0 N s m
  wf : Wf s
  few : s.puts.length ≤ j
theorem Cu.start {N T : Int} {kn : List (Int × Wd)} {m : Int → Int} (h : WM N T kn m) {s : Sp} (h1 : s.puts = []) (h2 : s.rd = []) (h3 : s.ended = false) (h4 : ∀ a, lookW s.kn a = lookW kn a) : Cu N s s m 0 := by
  refine ⟨⟨h3, rfl, fun a a1 a2 => ?_, ⟨[], by simp⟩, fun a a1 a2 => ?_⟩, ⟨by rw [h2]; exact List.nodup_nil, (by rw [h2]; intro x hx; cases hx), (by rw [h1]; intro p hp; cases hp)⟩, by rw [h1]; exact Nat.le_refl _⟩
  · cases hl : lookW s.kn a with
    | some w => exact ⟨w, rfl⟩
    | none => rw [h4] at hl; exact absurd hl ((h.dom a).2 ⟨a1, a2⟩)
  · rw [← h.val a a1 a2]
    unfold Sp.value valW
    rw [h1, h4]
    rfl
theorem Cu.run {N : Int} {s0 s : Sp} {m : Int → Int} {j i : Nat} {α : Type} {g : Pg α} {Q : α → (Int → Int) → Prop} (h : Cu N s0 s m j) (hb : Pg.Bd i g) (hj : j + i ≤ 50000) (hq : Pg.Ok N g m Q) :
    Pg.Fits g s ∧ ∃ m', Cu N s0 (Pg.run g s).2 m' (j + i) ∧ Q (Pg.run g s).1 m' := by
  have hf := h.few
  refine ⟨Pg.fits_of g i s hb (by omega), ?_⟩
  obtain ⟨m', h1, h2⟩ := hq s0 s h.vw
  exact ⟨m', ⟨h1, (Pg.wf g h.wf).1, by have := Pg.run_len g i s hb; omega⟩, h2⟩
theorem WM.next {N T : Int} {kn kn2 : List (Int × Wd)} {m m' : Int → Int} (h : WM N T kn m) (h2 : WOk (T + 1) kn2) {s0 s : Sp} {j : Nat} (hc : Cu N s0 s m' j) (hk : ∀ a, lookW s0.kn a = lookW kn a) (hn : ∀ a, lookW kn2 a = nextW kn s a) : WM N (T + 1) kn2 m' := by
  refine ⟨h2, fun a => ?_, fun a a1 a2 => ?_⟩
  · rw [hn, nextW, ← h.dom a]
    cases lookW kn a <;> simp
  · have hv := hc.vw.val a a1 a2
    cases hl : lookW kn a with
    | none => exact absurd hl ((h.dom a).2 ⟨a1, a2⟩)
    | some w =>
      unfold valW
      rw [hn, nextW, hl]
      simp only [Option.map_some]
      split
      · exact hv
      · rename_i hw
        have hw : (s.value a).2 = false := by simpa using hw
        have := value_not hw
        rw [hc.vw.kn, hk, hl] at this
        rw [← hv, this]
theorem knLen {ka kb : List (Int × Wd)} (ha : (ka.map (·.1)).Nodup) (hb : (kb.map (·.1)).Nodup) (h : ∀ a, lookW ka a ≠ none ↔ lookW kb a ≠ none) : ka.length = kb.length := by
  have hp : (ka.map (·.1)).Perm (kb.map (·.1)) := by
    rw [List.perm_ext_iff_of_nodup ha hb]
    intro a
    have h1 := look_none ka a
    have h2 := look_none kb a
    have h3 := h a
    constructor
    · intro hm
      refine Classical.byContradiction fun hn => ?_
      exact (h3.1 (fun e => (h1.1 e) hm)) (h2.2 hn)
    · intro hm
      refine Classical.byContradiction fun hn => ?_
      exact (h3.2 (fun e => (h2.1 e) hm)) (h1.2 hn)
  have := hp.length_eq
  simpa using this
theorem alike_same {N T T' : Int} {ka kb : List (Int × Wd)} {m : Int → Int} (ha : WM N T ka m) (hb : WM N T' kb m) : alikeB ka kb = true := by
  unfold alikeB
  rw [decide_eq_true (knLen ha.ok.nd hb.ok.nd fun a => (ha.dom a).trans (hb.dom a).symm), Bool.true_and, List.all_eq_true]
  intro p hp
  obtain ⟨q, hq⟩ := List.mem_iff_getElem?.1 hp
  have hl := keys_look ka ha.ok.nd q p.1 p.2 hq
  obtain ⟨g1, g2⟩ := (ha.dom p.1).1 (by rw [hl]; exact fun e => by cases e)
  rw [decide_eq_true_eq, hb.val p.1 g1 g2, ← ha.val p.1 g1 g2]
  unfold valW; rw [hl]
theorem fresh_WM (N : Nat) (hN : N ≤ 4096) : WM N 0 (wk 0 (List.replicate N 0)) (fun _ => 0) := by
  have hl : ∀ a, lookW (wk 0 (List.replicate N 0)) a = if 0 ≤ a ∧ a < (N : Int) then some ⟨0, 0, 0⟩ else none := by
    intro a
    rw [lookW_wk]
    simp only [List.length_replicate, Int.natCast_zero, Int.zero_add, Int.sub_zero]
    by_cases h : 0 ≤ a ∧ a < (N : Int)
    · rw [if_pos h, if_pos h, List.getElem?_replicate, if_pos (by omega)]; rfl
    · rw [if_neg h, if_neg h]
  refine ⟨⟨?_, fun a w hw => ?_⟩, fun a => ?_, fun a a1 a2 => ?_⟩
  · have : ∀ (i : Nat) (l : List Int), ((wk i l).map (·.1)) = (List.range' i l.length).map (fun (q : Nat) => (q : Int)) := by
      intro i l
      induction l generalizing i with
      | nil => rfl
      | cons v r ih => simp only [wk, List.map_cons, List.length_cons, List.range'_succ, ih (i + 1)]
    rw [this]
    rw [List.nodup_iff_pairwise_ne, List.pairwise_map]
    exact (List.nodup_iff_pairwise_ne.1 (List.nodup_range' (s := 0) (step := 1))).imp (fun h e => h (by omega))
  · rw [hl] at hw
    split at hw
    · cases hw; dsimp only; omega
    · cases hw
  · rw [hl]; split
    · rename_i h; simp [h]
    · rename_i h; simp; omega
  · unfold valW; rw [hl, if_pos ⟨a1, a2⟩]
end Sim
namespace Go.Proofs.YtloekplbhknepaaGreat
open Go.Vc Sim
section
variable {w0 : World} {n : Nat} {sh shf : Shared} {Q : Exit → Env → List Deferred → List Asn → Prop} {k : List Item} {ρ : Env} {df : List Deferred} {Γ Γr : List Asn}
variable {ops : Array Oper} {l : List (Fl × Nat × Oper)} {i : Nat} {ty : TypeId} {pos : String} {aft : Array Edge} {dst : Option Tmp}
variable {f : FuncId} {args : List Value} {fo : Operand} {cargs : Array Operand} {ats : Array TypeId} {first cap : Array Value}
theorem reg_callO (is : List Nat) {α : Type} {N : Int} {g : Pg α} {s0 s : Sp} {m : Int → Int} {j q p : Nat} {enc : α → Value} {R : α → (Int → Int) → Prop} (hC : Cu N s0 s m j) (hB : Pg.Bd q g) (hO : Pg.Ok N g m R) (hj : j + q ≤ 50000) (spec : FnG w0 shf f args p g enc)
    (hfo : ev ρ fo = .func (.func f) first cap) (hargs : first.toList ++ cargs.toList.map (ev ρ) ++ cap.toList = args)
    (hp : pick is Γ = some ([SpaceA p s], Γr)) (hsh : ∀ p ∈ shf, p ∈ sh) (h : ∀ x s' m', R x m' → Cu N s0 s' m' (j + q) → Reg PP w0 n sh Q ops l k (ρ.setO dst (enc x)) df (SpaceA p s' :: Γr)) :
    Reg PP w0 n sh Q ops ((Fl.loud, i, ⟨dst, .call ⟨.value fo, cargs, ats⟩, ty, pos, aft, none⟩) :: l) k ρ df Γ := by
  obtain ⟨h1, m', h2, h3⟩ := hC.run hB hj hO
  exact zah is (spec s h1) hfo hargs hp hsh rfl (h _ _ m' h3 h2)
end
theorem done_mem {σ : Type} (w0 : World) (shc : Shared) (wb : Nat) (kn : List (Int × Wd)) (N T : Int) (m : Int → Int) (hT : T ≤ 1000000) (hw : WM N T kn m) (f : FuncId) (cap : Array Value) (A : Asn) (A' : σ → Asn) (M : σ → Int → Int)
    (hdo : ∀ p s, Cu N s s m 0 → (∀ a, lookW s.kn a = lookW kn a) → Vc.Fn PP w0 shc f (spP p :: cap.toList) [SpaceA p s, A] (fun v Γ => ∃ st s' j, v = .tuple #[] ∧ Γ = [SpaceA p s', A' st] ∧ j ≤ 50000 ∧ Cu N s s' (M st) j)) :
    Vc.Fn PP w0 ((wb, mapI (knM kn)) :: shc) 19 [.map (some wb), .func (.func f) #[] cap] [A]
      (fun v Γ => ∃ st nb a len c kn2, v = .tuple #[.map (some nb), .slice a len c, .bool true] ∧ Γ = [pt nb (mapI (knM kn2)), A' st] ∧ WM N (T + 1) kn2 (M st)) := by
  refine (done_spec w0 shc wb kn T hT hw.ok f cap A A' (fun st s' => ∃ s0 j, Cu N s0 s' (M st) j ∧ ∀ a, lookW s0.kn a = lookW kn a) fun p s h1 h2 h3 h4 => ?_).mono ?_
  · refine (hdo p s (Cu.start hw h1 h2 h3 h4) h4).mono ?_
    rintro v Γ ⟨st, s', j, hv, hΓ, hj, hc⟩
    exact ⟨st, s', hv, hΓ, ⟨hc.vw.live, hc.wf, hc.vw.kn, by have := hc.few; omega⟩, s, j, hc, h4⟩
  · rintro v Γ ⟨st, s', nb, a, len, c, kn2, hv, hΓ, ⟨s0, j, hc, hk⟩, h5, h6⟩
    exact ⟨st, nb, a, len, c, kn2, hv, hΓ, hw.next h5 hc hk h6⟩
end Go.Proofs.YtloekplbhknepaaGreat

namespace Sim
open Go Go.Vc
def TOk (K : Int) (hs : Int → Int) (hv : Int → Bool) (m : Int → Int) (l : List Ri) : Prop := ∃ I B Q, TM K hs hv m I B Q ∧ Tr.Tight I B ∧ Ag I l
def wasL (l : List Ri) (n : Int) : Int := if (rfind l n).2 = true then (match l[(rfind l n).1]? with | some x => x.v | none => 0) else 0
section
variable {K : Int} {hs : Int → Int} {hv : Int → Bool} {m : Int → Int} {l : List Ri}
theorem look_was {I : List It} (hA : Ag I l) (n : Int) : (∃ x, Tr.look I n = some x ∧ rfind l n = ((rfind l n).1, true) ∧ wasL l n = x.v ∧ x.n = n) ∨ (Tr.look I n = none ∧ rfind l n = ((rfind l n).1, false) ∧ wasL l n = 0) := by
  rcases rfind_look hA n with ⟨x, A, B, h1, h2, h3, h4⟩ | ⟨A, B, h1, h2, h3, _⟩
  · refine .inl ⟨x, h1, by rw [h3], ?_, h4⟩
    unfold wasL
    rw [h3, if_pos rfl]
    dsimp only
    rw [h2, List.getElem?_append_right (Nat.le_refl _), Nat.sub_self]
    rfl
  · refine .inr ⟨h1, by rw [h3], ?_⟩
    unfold wasL
    rw [h3]
    exact if_neg (fun h => by cases h)
theorem TOk.hh (h : TOk K hs hv m l) : ∀ x ∈ l, x.h = hs x.n ∧ hv x.n = true ∧ 0 ≤ x.h := by
  obtain ⟨I, B, Q, M, _, A⟩ := h
  intro x hx
  obtain ⟨y, hy, rfl⟩ := List.mem_map.1 (A.pm.mem_iff.1 hx)
  exact M.sh.hh y hy
theorem TOk.few (hK : 0 ≤ K ∧ K ≤ 60) (h : TOk K hs hv m l) : (rnodes l : Int) ≤ K ∧ (l.length : Int) ≤ K ∧ l.length ≤ 60 := by
  obtain ⟨I, B, Q, M, hT, A⟩ := h
  have h1 := Tr.few hK M
  have h2 := Tr.nodes_ok M hT A
  have h3 : l.length = I.length := by rw [A.pm.length_eq, List.length_map]
  omega
theorem TOk.get (hK : 0 ≤ K ∧ K ≤ 60) (h : TOk K hs hv m l) (n : Int) : Pg.Ok 544 ((t0 K hs hv).get n (hs n)) m fun r m' => r = (wasL l n, (rfind l n).2) ∧ m' = m := by
  obtain ⟨I, B, Q, M, hT, A⟩ := h
  refine (Tr.get_ok hK M n).mono ?_
  rintro r m' ⟨rfl, rfl⟩
  refine ⟨?_, rfl⟩
  unfold Tr.gotR
  rcases look_was A n with ⟨x, h1, h2, h3, _⟩ | ⟨h1, h2, h3⟩
  · rw [h1, h3, h2]
  · rw [h1, h3, h2]
theorem TOk.drop (hK : 0 ≤ K ∧ K ≤ 60) (h : TOk K hs hv m l) (n : Int) : Pg.Ok 544 ((t0 K hs hv).drop n (hs n)) m fun r m' => r = ((wasL l n, (rfind l n).2), 0) ∧ TOk K hs hv m' (rdrop l n) := by
  obtain ⟨I, B, Q, M, hT, A⟩ := h
  refine (Tr.drop_ok hK M hT n).mono ?_
  intro r m' hr
  unfold Tr.DropR at hr
  rcases look_was A n with ⟨x, h1, h2, h3, _⟩ | ⟨h1, h2, h3⟩
  · rw [h1] at hr
    obtain ⟨rfl, B', Q', M', T'⟩ := hr
    rw [h3, h2]
    exact ⟨rfl, _, B', Q', M', T', ag_drop A h1⟩
  · rw [h1] at hr
    obtain ⟨rfl, rfl⟩ := hr
    rw [h3, h2, rdrop_none A h1]
    exact ⟨rfl, I, B, Q, M, hT, A⟩
theorem TOk.put (hK : 0 ≤ K ∧ K ≤ 60) (h : TOk K hs hv m l) (n v : Int) (hn : hv n = true ∧ 0 ≤ hs n) : Pg.Ok 544 ((t0 K hs hv).put n (hs n) v) m fun r m' =>
    (r = ((wasL l n, (rfind l n).2), 0) ∧ (rnodes (rput l ⟨n, hs n, v⟩) : Int) ≤ K ∧ TOk K hs hv m' (rput l ⟨n, hs n, v⟩)) ∨ (r = ((0, false), 9) ∧ K < (rnodes (rput l ⟨n, hs n, v⟩) : Int) ∧ m' = m) := by
  obtain ⟨I, B, Q, M, hT, A⟩ := h
  refine (Tr.put_ok hK M hT n v hn).mono ?_
  intro r m' hr
  unfold Tr.PutR at hr
  rcases look_was A n with ⟨x, h1, h2, h3, h4⟩ | ⟨h1, h2, h3⟩
  · rw [h1] at hr
    obtain ⟨rfl, B', Q', M', T'⟩ := hr
    have hx := M.sh.hh x (Tr.look_some h1).1
    have A' := ag_put_old (h := hs n) (v := v) A h1 (by rw [hx.1, h4])
    have ht : TOk K hs hv m' (rput l ⟨n, hs n, v⟩) := ⟨_, B', Q', M', T', A'⟩
    rw [h3, h2]
    exact .inl ⟨rfl, (ht.few hK).1, ht⟩
  · rw [h1] at hr
    rcases hr with ⟨rfl, a, B', Q', M', T'⟩ | ⟨rfl, rfl, hO⟩
    · have ht : TOk K hs hv m' (rput l ⟨n, hs n, v⟩) := ⟨_, B', Q', M', T', ag_put_new A h1⟩
      rw [h3, h2]
      exact .inl ⟨rfl, (ht.few hK).1, ht⟩
    · exact .inr ⟨rfl, Tr.over_nodes (n := n) (v := v) (a := 0) (ag_put_new A h1) hO, rfl⟩
theorem TOk.len (h : TOk K hs hv m l) : Pg.Ok 544 ((t0 K hs hv).len) m fun r m' => r = (l.length : Int) ∧ m' = m := by
  obtain ⟨I, B, Q, M, hT, A⟩ := h
  have h3 : l.length = I.length := by rw [A.pm.length_eq, List.length_map]
  exact Pg.Ok.get (show (0 : Int) ≤ 17 by decide) (show (17 : Int) < 544 by decide) (Pg.Ok.pure ⟨by rw [h3]; exact M.len, rfl⟩)
theorem TOk.nod (h : TOk K hs hv m l) : Pg.Ok 544 (Pg.gt 23) m fun r m' => r = (rnodes l : Int) ∧ m' = m := by
  obtain ⟨I, B, Q, M, hT, A⟩ := h
  have h2 := Tr.nodes_ok M hT A
  exact Pg.Ok.get (by decide) (by decide) (Pg.Ok.pure ⟨by rw [h2, M.nod]; omega, rfl⟩)
theorem sorted_one : ∀ (A B : List (Int × Int)), A.Perm B → A.Pairwise (fun x y => x.1 ≤ y.1) → B.Pairwise (fun x y => x.1 < y.1) → A = B
  | [], B, hp, _, _ => (List.nil_perm.1 hp).symm
  | a :: A, [], hp, _, _ => List.perm_nil.1 hp
  | a :: A, b :: B, hp, hA, hB => by
    obtain ⟨a1, a2⟩ := List.pairwise_cons.1 hA
    obtain ⟨b1, b2⟩ := List.pairwise_cons.1 hB
    have hab : a = b := by
      have h1 : a ∈ b :: B := hp.mem_iff.1 (by simp)
      have h2 : b ∈ a :: A := hp.mem_iff.2 (by simp)
      rcases List.mem_cons.1 h1 with e | h1
      · exact e
      rcases List.mem_cons.1 h2 with e | h2
      · exact e.symm
      have := b1 a h1; have := a1 b h2; omega
    subst hab
    rw [sorted_one A B ((List.perm_cons a).1 hp) a2 b2]
theorem TOk.zero (hK : 0 ≤ K ∧ K ≤ 60) : TOk K hs hv (fun _ => 0) [] := by
  refine ⟨[], fun _ _ => 0, [], ⟨⟨?_, List.nodup_nil, fun d p => by simp, fun d p h => absurd rfl h, fun d h hb => absurd rfl hb, fun d p d' p' hb => absurd rfl hb, fun x hx => (by cases hx), List.nodup_nil, List.nodup_nil, fun x hx => (by cases hx), fun d h _ _ _ => Nat.zero_le _⟩, ⟨fun x hx => (by cases hx), fun q => trivial, fun h d _ _ => rfl⟩, ?_, rfl, rfl⟩, fun e q hb => absurd rfl hb, ⟨List.Pairwise.nil, List.Perm.refl _⟩⟩
  · rintro b (⟨x, hx, _⟩ | ⟨d, p, hb, _⟩)
    · cases hx
    · exact absurd rfl hb
  · exact ⟨[], 0, Int.le_refl _, hK.1, rfl, rfl, rfl, List.nodup_nil, by simp, fun b => ⟨fun hu => by
      rcases hu with ⟨x, hx, _⟩ | ⟨d, p, hb, _⟩
      · cases hx
      · exact absurd rfl hb, fun ⟨⟨k, h0, h1, _⟩, _⟩ => by omega⟩, rfl, Int.le_refl _⟩
end
end Sim
namespace Go.Proofs.YtloekplbhknepaaGreat
open Go.Vc Sim
theorem walkS_ok {K : Int} {hs : Int → Int} {hv : Int → Bool} {m : Int → Int} {l : List Ri} (hK : 0 ≤ K ∧ K ≤ 60) (h : TOk K hs hv m l) : Pg.Ok 544 (walkS (t0 K hs hv)) m fun r m' => r = (l.map fun x => (x.n, x.v), 0) ∧ m' = m := by
  obtain ⟨I, B, Q, M, hT, A⟩ := h
  unfold walkS
  refine Pg.Ok.bind _ (Tr.walk_ok hK M) ?_
  rintro r m' ⟨rfl, h1, h2⟩
  rw [if_pos h1]
  refine Pg.Ok.pure ⟨?_, rfl⟩
  obtain ⟨s1, s2⟩ := SF.sortP_holds r.1.1
  congr 1
  refine sorted_one _ _ (s1.trans (h2.trans ?_)) s2 ?_
  · have := (A.pm.map fun x : Ri => (x.n, x.v)).symm
    rw [List.map_map] at this
    exact this
  · rw [List.pairwise_map]
    exact A.up
end Go.Proofs.YtloekplbhknepaaGreat

namespace Sim
open Go Go.Vc
def stepL (K : Int) (hs : Int → Int) (l : List Ri) (d n v : Int) : List Ri :=
  if d % 4 = 2 then l else if d % 4 = 3 then rdrop l n else if (rnodes (rput l ⟨n, hs n, v⟩) : Int) ≤ K then rput l ⟨n, hs n, v⟩ else l
abbrev tI (K : Int) : Tr := t0 K hsI (fun _ => true)
theorem tI_ok {K : Int} (hK : 0 ≤ K ∧ K ≤ 60) : (tI K).Ok := ⟨tP_ok hK, (by decide : (0 : Int) ≤ 16), (by decide : (16 : Int) ≤ 4096), (by show K ≤ 100; omega), fun n => (hsI_in n).1, fun n => (hsI_in n).2⟩
theorem rput_hh {l : List Ri} {y : Ri} (h : ∀ x ∈ l, 0 ≤ x.h) (hy : 0 ≤ y.h) : ∀ x ∈ rput l y, 0 ≤ x.h := by
  intro x hx
  unfold rput at hx
  rcases List.mem_append.1 hx with hx | hx
  · rcases List.mem_append.1 hx with hx | hx
    · exact h x (List.mem_of_mem_take hx)
    · rw [List.mem_singleton] at hx; rw [hx]; exact hy
  · exact h x (List.mem_of_mem_drop hx)
theorem tI_isI {K : Int} : (tI K).IsI := ⟨rfl, fun _ => rfl⟩
end Sim
namespace Go.Proofs.YtloekplbhknepaaGreat
open Go.Vc Sim
set_option maxHeartbeats 8000000
abbrev stC (wb : Nat) (K : Int) (a : Option Addr) (c : Nat) (l : List Ri) : List Value := [.map (some wb), kV, .int .i64 1, .int .i64 64, .int .i64 K, .int .i64 16, .slice a l.length c]
abbrev stB (xb wb : Nat) (K : Int) (a : Option Addr) (c : Nat) (l : List Ri) : Asn := pt xb (.cells (List.toArray (stC wb K a c l)) 35 (0, 0))
abbrev okB (ob : Nat) (b : Bool) : Asn := pt ob (.cells (List.toArray [.bool b]) 4 (0, 0))
abbrev LstT (a : Option Addr) (c : Nat) (l : List Ri) : Asn := LstE encT 3 94 (.slice a l.length c) l
abbrev clC (d n v : Int) : Obj := .cells (List.toArray [.int .u8 d, .int .i64 n, .int .i64 v]) 64 (0, 0)
abbrev intC (n : Int) : Obj := .cells (List.toArray [.int .i64 n]) 2 (0, 0)
abbrev boolC (b : Bool) : Obj := .cells (List.toArray [.bool b]) 4 (0, 0)
section
variable {w0 : World} {n : Nat} {sh : Shared} {Q : Exit → Env → List Deferred → List Asn → Prop} {k : List Item} {ρ : Env} {df : List Deferred} {Γ : List Asn}
variable {ops : Array Oper} {i : Nat} {ty : TypeId} {pos : String} {aft : Array Edge}
theorem reg_eqBT {p : Bool} {f : Fl} {x y : Operand} {t yt : TypeId} {d : Tmp} {l : List (Fl × Nat × Oper)} [hT : TUnd PP t .bool] (hx : ev ρ x = .bool p) (hy : ev ρ y = .bool p) (h : Reg PP w0 n sh Q ops l k (ρ.set d (.bool true)) df Γ) :
    Reg PP w0 n sh Q ops ((f, i, ⟨some d, .binOp .eql t x y yt, ty, pos, aft, none⟩) :: l) k ρ df Γ :=
  zbb hx hy (by rw [beq_self_eq_true]; exact h)
end
structure Ts (K : Int) (l : List Ri) where
  m : Int → Int
  a : Option Addr
  c : Nat
  ok : TOk K hsI (fun _ => true) m l
section
variable {K : Int} {m : Int → Int} {l : List Ri}
theorem step1_spec (w0 : World) (sh : Shared) (p cb xb ab hb ob ib mb wb : Nat) (hK : 0 ≤ K ∧ K ≤ 60) (a : Option Addr) (c : Nat) (s : Sp) (hC : Cu 544 s s m 0) (h : TOk K hsI (fun _ => true) m l) (d n v : Int) (hd : 0 ≤ d ∧ d ≤ 255)
    (hcb : (cb, clC d n v) ∈ sh) (hab : (ab, intC (wasL l n)) ∈ sh) (hhb : (hb, boolC (rfind l n).2) ∈ sh) (hib : (ib, boolC true) ∈ sh) (hmb : (mb, intC n) ∈ sh) (l' : List Ri) (hl' : stepL K hsI l d n v = l') :
    Vc.Fn PP w0 sh 66 [spP p, ptr cb, ptr xb, ptr ab, ptr hb, ptr ob, ptr ib, ptr mb] [SpaceA p s, StarsA [stB xb wb K a c l, okB ob true, LstT a c l]]
      (fun v Γ => ∃ (st : Ts K l') (s' : Sp) (j : Nat), v = .tuple #[] ∧ Γ = [SpaceA p s', StarsA [stB xb wb K st.a st.c l', okB ob true, LstT st.a st.c l']] ∧ j ≤ 50000 ∧ Cu 544 s s' st.m j) := by
  have hT := tI_ok hK
  have hlen := (h.few hK).2.2
  refine fn_of_run en66 fn66 rfl rfl rfl ?_
  refine run_unpack [1] rfl ?_
  refine run_lendE [2] rfl fun sh' hi hR => ?_
  have hmc : ∀ hF Γ w, Sh sh' hF → St w0 hF Γ w → w.heap[cb]? = some (clC d n v) := fun hF Γ w h1 h2 => (h2.frame (h1 _ (hi _ hcb))).2
  have hma : ∀ hF Γ w, Sh sh' hF → St w0 hF Γ w → w.heap[ab]? = some (intC (wasL l n)) := fun hF Γ w h1 h2 => (h2.frame (h1 _ (hi _ hab))).2
  have hmh : ∀ hF Γ w, Sh sh' hF → St w0 hF Γ w → w.heap[hb]? = some (boolC (rfind l n).2) := fun hF Γ w h1 h2 => (h2.frame (h1 _ (hi _ hhb))).2
  have hmi : ∀ hF Γ w, Sh sh' hF → St w0 hF Γ w → w.heap[ib]? = some (boolC true) := fun hF Γ w h1 h2 => (h2.frame (h1 _ (hi _ hib))).2
  have hmm : ∀ hF Γ w, Sh sh' hF → St w0 hF Γ w → w.heap[mb]? = some (intC n) := fun hF Γ w h1 h2 => (h2.frame (h1 _ (hi _ hmb))).2
  have HM : ∀ (sh2 : Shared) (hi2 : ∀ p ∈ sh', p ∈ sh2) (b : Nat) (o : Obj), (b, o) ∈ sh → ∀ hF Γ w, Sh sh2 hF → St w0 hF Γ w → w.heap[b]? = some o := fun sh2 hi2 b o hm hF Γ w h1 h2 => (h2.frame (h1 _ (hi2 _ (hi _ hm)))).2
  repeat (first | refine zck ?_ | refine zcl ?_ | refine zcm ?_ | refine zcn ?_)
  first | refine zcp (by kernel_rfl) ?_ | refine zcq PP_mixed (by kernel_rfl) (by kernel_rfl) ?_
  repeat' (refine zap rfl ?_; first | refine reg_rem_nn rfl rfl hd.1 (by decide) ?_ | refine zad rfl hmc rfl ?_ | refine zao rfl ?_)
  all_goals refine zch ?_
  all_goals repeat (first | refine zck ?_ | refine zcl ?_ | refine zcm ?_ | refine zcn ?_)
  unfold stepL at hl'
  by_cases c2 : d % 4 = 2
  · rw [if_pos c2] at hl'
    subst hl'
    repeat (first | refine zck ?_ | refine zcl ?_ | refine zcm ?_ | refine zcn ?_)
    first | refine zcp (by kernel_rfl) ?_ | refine zcq PP_mixed (by kernel_rfl) (by kernel_rfl) ?_
    repeat' (refine zap rfl ?_; first | refine zan rfl ?_ | refine zbc rfl rfl (by omega) ?_)
    all_goals refine zch ?_
    all_goals repeat (first | refine zck ?_ | refine zcl ?_ | refine zcm ?_ | refine zcn ?_)
    refine zci rfl ?_
    repeat (first | refine zck ?_ | refine zcl ?_ | refine zcm ?_ | refine zcn ?_)
    first | refine zcp (by kernel_rfl) ?_ | refine zcq PP_mixed (by kernel_rfl) (by kernel_rfl) ?_
    repeat' (refine zap rfl ?_; first | refine zad rfl hmc rfl ?_ | refine zan rfl ?_ | refine zan rfl ?_ | refine zab 0 rfl rfl rfl ?_ | (refine reg_callO [2] hC ((tI K).bd_get n (hsI n)) (h.get hK n) (by omega) (trGet w0 p (tI K) hT tI_isI n) rfl rfl rfl sub_nil ?_; rintro x s' m' ⟨rfl, em⟩ hC; rw [em] at hC) | refine zao rfl ?_ | refine zan rfl ?_)
    all_goals refine zch ?_
    all_goals repeat (first | refine zck ?_ | refine zcl ?_ | refine zcm ?_ | refine zcn ?_)
    repeat' (first | refine zcp (by kernel_rfl) ?_ | refine zcn ?_ | (refine zap rfl ?_; first | refine reg_eqBT rfl rfl ?_ | refine zbc rfl rfl (by dsimp only) ?_ | refine zad rfl hma rfl ?_ | refine zad rfl hmh rfl ?_ | refine zaj rfl ?_ | refine zan rfl ?_ | (refine zai [0] (writes_spec w0 p s' (by have := hC.few; omega)) rfl rfl rfl sub_nil ?_; rintro v Γ' ⟨wa, wcap, rfl, rfl⟩; have hw0 : s'.writes.length = 0 := Sp.writes_len0.2 (List.length_eq_zero_iff.1 (by have := hC.few; omega))) | refine zce rfl ?_ | refine zbc rfl rfl (by omega) ?_ | refine zbu rfl ?_ | refine zae 3 rfl rfl rfl rfl rfl rfl rfl ?_) | refine zch ?_)
    exact run_nil (leaves_nil (ends_pack [0, 1, 1, 1] rfl (ends_none rfl ⟨rfl, ⟨m, a, c, h⟩, s', 0, rfl, rfl, by decide, hC⟩)))
  rw [if_neg c2] at hl'
  by_cases c3 : d % 4 = 3
  · rw [if_pos c3] at hl'
    repeat (first | refine zck ?_ | refine zcl ?_ | refine zcm ?_ | refine zcn ?_)
    first | refine zcp (by kernel_rfl) ?_ | refine zcq PP_mixed (by kernel_rfl) (by kernel_rfl) ?_
    repeat' (refine zap rfl ?_; first | refine zan rfl ?_ | refine zbd rfl rfl (by omega) ?_)
    all_goals refine zch ?_
    all_goals repeat (first | refine zck ?_ | refine zcl ?_ | refine zcm ?_ | refine zcn ?_)
    refine zcj rfl ?_
    repeat (first | refine zck ?_ | refine zcl ?_ | refine zcm ?_ | refine zcn ?_)
    first | refine zcp (by kernel_rfl) ?_ | refine zcq PP_mixed (by kernel_rfl) (by kernel_rfl) ?_
    repeat' (refine zap rfl ?_; first | refine zan rfl ?_ | refine zbc rfl rfl (by omega) ?_)
    all_goals refine zch ?_
    all_goals repeat (first | refine zck ?_ | refine zcl ?_ | refine zcm ?_ | refine zcn ?_)
    refine zci rfl ?_
    repeat (first | refine zck ?_ | refine zcl ?_ | refine zcm ?_ | refine zcn ?_)
    first | refine zcp (by kernel_rfl) ?_ | refine zcq PP_mixed (by kernel_rfl) (by kernel_rfl) ?_
    repeat' (refine zap rfl ?_; first | refine zad rfl hmc rfl ?_ | refine zan rfl ?_ | refine zan rfl ?_ | refine zab 0 rfl rfl rfl ?_ | (refine reg_callO [2] hC ((tI K).bd_drop hT n (hsI n)) (h.drop hK n) (by omega) (trDrop w0 p (tI K) hT tI_isI n) rfl rfl rfl sub_nil ?_; rintro x s' m' ⟨rfl, hM⟩ hC) | refine zao rfl ?_ | refine zan rfl ?_)
    all_goals refine zch ?_
    all_goals repeat (first | refine zck ?_ | refine zcl ?_ | refine zcm ?_ | refine zcn ?_)
    repeat (first | refine zck ?_ | refine zcl ?_ | refine zcm ?_ | refine zcn ?_)
    first | refine zcp (by kernel_rfl) ?_ | refine zcq PP_mixed (by kernel_rfl) (by kernel_rfl) ?_
    repeat' (refine zap rfl ?_; first | refine zad rfl hmi rfl ?_ | refine zbx rfl ?_)
    all_goals refine zch ?_
    all_goals repeat (first | refine zck ?_ | refine zcl ?_ | refine zcm ?_ | refine zcn ?_)
    refine zcj rfl ?_
    repeat (first | refine zck ?_ | refine zcl ?_ | refine zcm ?_ | refine zcn ?_)
    first | refine zcp (by kernel_rfl) ?_ | refine zcq PP_mixed (by kernel_rfl) (by kernel_rfl) ?_
    repeat' (refine zap rfl ?_; first | refine reg_eqBT rfl rfl ?_ | refine zbc rfl rfl (by dsimp only) ?_ | refine zad rfl hma rfl ?_ | refine zad rfl hmh rfl ?_ | refine zaj rfl ?_ | refine zan rfl ?_ | refine zbu rfl ?_ | refine zae 2 rfl rfl rfl rfl rfl rfl rfl ?_)
    all_goals refine zch ?_
    all_goals repeat (first | refine zck ?_ | refine zcl ?_ | refine zcm ?_ | refine zcn ?_)
    by_cases hf : (rfind l n).2 = true
    · have hD := rfDrop1 w0 sh' a c l hR (by omega) n hf
      subst hl'
      repeat' (first | refine zcp (by kernel_rfl) ?_ | refine zcn ?_ | (refine zap rfl ?_; first | refine zad rfl hmm rfl ?_ | refine zab 1 rfl rfl rfl ?_ | (refine zai [] hD rfl rfl rfl (fun _ h => h) ?_; rintro v Γ' ⟨a1, c1, rfl, rfl⟩) | refine zao rfl ?_ | refine zae 2 rfl rfl rfl rfl rfl rfl rfl ?_) | refine zch ?_)
      refine run_exch 0 _ rfl (LstE.ofSl (encT_len _) rfl) rfl ?_
      exact run_nil (leaves_nil (ends_pack [1, 1, 1, 0] rfl (ends_none rfl ⟨rfl, ⟨_, a1, c1, hM⟩, s', _, rfl, rfl, by decide, hC⟩)))
    · have hf : (rfind l n).2 = false := by simpa using hf
      have hD := rfDrop0 w0 sh' a c l hR (by omega) n hf
      have e : rdrop l n = l := by unfold rdrop; rw [hf, if_neg (by decide)]
      rw [e] at hl' hM
      subst hl'
      repeat' (first | refine zcp (by kernel_rfl) ?_ | refine zcn ?_ | (refine zap rfl ?_; first | refine zad rfl hmm rfl ?_ | refine zab 1 rfl rfl rfl ?_ | refine zah [] hD rfl rfl rfl (fun _ h => h) rfl ?_ | refine zao rfl ?_ | refine zae 1 rfl rfl rfl rfl rfl rfl rfl ?_) | refine zch ?_)
      exact run_nil (leaves_nil (ends_pack [0, 0, 0, 0] rfl (ends_none rfl ⟨rfl, ⟨_, a, c, hM⟩, s', _, rfl, rfl, by decide, hC⟩)))
  rw [if_neg c3] at hl'
  have hPut := rfPut w0 sh' a c l hR (by omega) ⟨n, hsI n, v⟩
  have hpl := rput_len l ⟨n, hsI n, v⟩
  have hH := trHash w0 n
  have hh0 : ∀ x ∈ rput l ⟨n, hsI n, v⟩, 0 ≤ x.h := rput_hh (fun x hx => (h.hh x hx).2.2) (hsI_in n).1
  repeat (first | refine zck ?_ | refine zcl ?_ | refine zcm ?_ | refine zcn ?_)
  first | refine zcp (by kernel_rfl) ?_ | refine zcq PP_mixed (by kernel_rfl) (by kernel_rfl) ?_
  repeat' (refine zap rfl ?_; first | refine zan rfl ?_ | refine zbd rfl rfl (by omega) ?_)
  all_goals refine zch ?_
  all_goals repeat (first | refine zck ?_ | refine zcl ?_ | refine zcm ?_ | refine zcn ?_)
  refine zcj rfl ?_
  repeat (first | refine zck ?_ | refine zcl ?_ | refine zcm ?_ | refine zcn ?_)
  first | refine zcp (by kernel_rfl) ?_ | refine zcq PP_mixed (by kernel_rfl) (by kernel_rfl) ?_
  repeat' (refine zap rfl ?_; first | refine zan rfl ?_ | refine zbd rfl rfl (by omega) ?_)
  all_goals refine zch ?_
  all_goals repeat (first | refine zck ?_ | refine zcl ?_ | refine zcm ?_ | refine zcn ?_)
  refine zcj rfl ?_
  repeat (first | refine zck ?_ | refine zcl ?_ | refine zcm ?_ | refine zcn ?_)
  first | refine zcp (by kernel_rfl) ?_ | refine zcq PP_mixed (by kernel_rfl) (by kernel_rfl) ?_
  repeat' (refine zap rfl ?_; first | refine zad rfl hmc rfl ?_ | refine zan rfl ?_ | refine zan rfl ?_ | refine zab 0 rfl rfl rfl ?_ | (refine reg_callO [2] hC ((tI K).bd_put n (hsI n) v) (h.put hK n v ⟨rfl, (hsI_in n).1⟩) (by omega) (trPut w0 p (tI K) hT tI_isI n v) rfl rfl rfl sub_nil ?_; rintro x s' m' hx hC) | refine zao rfl ?_ | refine zan rfl ?_)
  all_goals refine zch ?_
  all_goals repeat (first | refine zck ?_ | refine zcl ?_ | refine zcm ?_ | refine zcn ?_)
  repeat (first | refine zck ?_ | refine zcl ?_ | refine zcm ?_ | refine zcn ?_)
  first | refine zcp (by kernel_rfl) ?_ | refine zcq PP_mixed (by kernel_rfl) (by kernel_rfl) ?_
  repeat' (refine zap rfl ?_; first | refine zad rfl hmi rfl ?_ | refine zbx rfl ?_)
  all_goals refine zch ?_
  all_goals repeat (first | refine zck ?_ | refine zcl ?_ | refine zcm ?_ | refine zcn ?_)
  refine zcj rfl ?_
  refine zcm ?_
  repeat refine zck ?_
  obtain ⟨⟨x1, x2⟩, x3⟩ := x
  refine run_bind_eq2 (σ := Option Addr × Nat) (l' := fun st => [(0, spP p), (2, ptr xb), (3, ptr ab), (4, ptr hb), (5, ptr ob), (14, .int .i64 x1), (15, .bool x2), (16, .int .i64 x3), (17, .slice st.1 (rput l ⟨n, hsI n, v⟩).length st.2)])
    (Γ' := fun st => [SlA 94 3 st.1 (rput l ⟨n, hsI n, v⟩).length st.2 ((rput l ⟨n, hsI n, v⟩).flatMap encT), SpaceA p s', okB ob true, stB xb wb K a c l]) ?_ (fun st junk => ?_)
  · refine run_share_keep [1] rfl ?_
    repeat (first | refine zck ?_ | refine zcl ?_ | refine zcm ?_ | refine zcn ?_)
    first | refine zcp (by kernel_rfl) ?_ | refine zcq PP_mixed (by kernel_rfl) (by kernel_rfl) ?_
    repeat' (refine zap rfl ?_; first | refine zad rfl (HM _ (fun _ h => .tail _ h) _ _ hcb) rfl ?_ | refine zad rfl (HM _ (fun _ h => .tail _ h) _ _ hmb) rfl ?_ | refine zan rfl ?_ | refine zaa 0 rfl rfl rfl ?_ | refine reg_invokeE [] hH rfl rfl rfl sub_nil rfl ?_ | (refine zai [] hPut rfl rfl rfl (fun _ h => .tail _ h) ?_; rintro v' Γ' ⟨a1, c1, rfl, rfl⟩) | refine zao rfl ?_ | refine zcb rfl ?_)
    all_goals refine zch ?_
    all_goals repeat (first | refine zck ?_ | refine zcl ?_ | refine zcm ?_ | refine zcn ?_)
    exact run_nil (show _ ∧ ∃ _, _ ∧ _ from ⟨rfl, (a1, c1), ⟨rfl, rfl, rfl, rfl, rfl, rfl, rfl, rfl, rfl, trivial⟩, rfl⟩)
  obtain ⟨a1, c1⟩ := st
  dsimp only
  refine run_exch 0 _ rfl (LstE.ofSl (encT_len _) rfl) rfl ?_
  refine run_lendE [0] rfl fun sh2 hi2 hR2 => ?_
  have hNd := rfNodes w0 sh2 a1 c1 _ hR2 (by omega) hh0
  repeat refine zck ?_
  by_cases hfull : (rnodes (rput l ⟨n, hsI n, v⟩) : Int) ≤ K
  · rw [if_pos hfull] at hl'
    subst hl'
    replace hx := hx.resolve_right (fun ⟨_, e, _⟩ => by omega)
    obtain ⟨e, _, hM⟩ := hx
    cases e
    refine run_bind_eq (l' := [(0, spP p), (2, ptr xb), (3, ptr ab), (4, ptr hb), (5, ptr ob), (14, .int .i64 (wasL l n)), (15, .bool (rfind l n).2), (16, .int .i64 0), (17, .slice a1 (rput l ⟨n, hsI n, v⟩).length c1), (64, .bool false)]) (Γ' := [SpaceA p s', okB ob true, stB xb wb K a c l]) ?_ (fun junk => ?_)
    · refine run_share_keep [2] rfl ?_
      repeat (first | refine zck ?_ | refine zcl ?_ | refine zcm ?_ | refine zcn ?_)
      first | refine zcp (by kernel_rfl) ?_ | refine zcq PP_mixed (by kernel_rfl) (by kernel_rfl) ?_
      repeat' (refine zap rfl ?_; first | refine zan rfl ?_ | refine zaa 0 rfl rfl rfl ?_ | refine zah [] hNd rfl rfl rfl (fun _ h => .tail _ h) rfl ?_ | refine zao rfl ?_ | refine zbl rfl rfl (by omega) ?_)
      all_goals refine zch ?_
      all_goals repeat (first | refine zck ?_ | refine zcl ?_ | refine zcm ?_ | refine zcn ?_)
      exact run_nil (show _ ∧ _ ∧ _ from ⟨rfl, ⟨rfl, rfl, rfl, rfl, rfl, rfl, rfl, rfl, rfl, rfl, trivial⟩, rfl⟩)
    repeat' (first | refine zck ?_ | refine zcp (by kernel_rfl) ?_ | refine zcm ?_ | refine zcn ?_ | (refine zap rfl ?_; first | refine reg_eqBT rfl rfl ?_ | refine zbc rfl rfl (by dsimp only) ?_ | refine zad rfl (HM _ hi2 _ _ hab) rfl ?_ | refine zad rfl (HM _ hi2 _ _ hhb) rfl ?_ | refine zaj rfl ?_ | refine zan rfl ?_ | refine zao rfl ?_ | refine zbu rfl ?_ | refine zae 1 rfl rfl rfl rfl rfl rfl rfl ?_ | refine zae 2 rfl rfl rfl rfl rfl rfl rfl ?_) | refine zch ?_ | refine zcj rfl ?_)
    exact run_nil (leaves_nil (ends_pack [0, 1, 0, 0] rfl (ends_none rfl ⟨rfl, ⟨_, a1, c1, hM⟩, s', _, rfl, rfl, by decide, hC⟩)))
  · rw [if_neg hfull] at hl'
    subst hl'
    rcases hx with ⟨_, e, _⟩ | ⟨e, _, em⟩
    · exact absurd e hfull
    cases e
    rw [em] at hC
    refine run_bind_eq (l' := [(0, spP p), (2, ptr xb), (3, ptr ab), (4, ptr hb), (5, ptr ob), (14, .int .i64 0), (15, .bool false), (16, .int .i64 9), (17, .slice a1 (rput l ⟨n, hsI n, v⟩).length c1), (64, .bool true)]) (Γ' := [SpaceA p s', okB ob true, stB xb wb K a c l]) ?_ (fun junk => ?_)
    · refine run_share_keep [2] rfl ?_
      repeat (first | refine zck ?_ | refine zcl ?_ | refine zcm ?_ | refine zcn ?_)
      first | refine zcp (by kernel_rfl) ?_ | refine zcq PP_mixed (by kernel_rfl) (by kernel_rfl) ?_
      repeat' (refine zap rfl ?_; first | refine zan rfl ?_ | refine zaa 0 rfl rfl rfl ?_ | refine zah [] hNd rfl rfl rfl (fun _ h => .tail _ h) rfl ?_ | refine zao rfl ?_ | refine zbk rfl rfl (by omega) ?_)
      all_goals refine zch ?_
      all_goals repeat (first | refine zck ?_ | refine zcl ?_ | refine zcm ?_ | refine zcn ?_)
      exact run_nil (show _ ∧ _ ∧ _ from ⟨rfl, ⟨rfl, rfl, rfl, rfl, rfl, rfl, rfl, rfl, rfl, rfl, trivial⟩, rfl⟩)
    repeat' (first | refine zck ?_ | refine zcp (by kernel_rfl) ?_ | (refine zap rfl ?_; first | refine zaj rfl ?_ | refine zan rfl ?_ | refine zbc rfl rfl (by omega) ?_ | refine zbx rfl ?_ | refine zbu rfl ?_ | refine zae 1 rfl rfl rfl rfl rfl rfl rfl ?_) | refine zch ?_ | refine zci rfl ?_)
    exact run_ret (leaves_nil (ends_pack [0, 1, 0, 1] rfl (ends_none rfl ⟨rfl, ⟨_, a, c, h⟩, s', _, rfl, rfl, by decide, hC⟩)))
end
end Go.Proofs.YtloekplbhknepaaGreat

namespace Go.Proofs.YtloekplbhknepaaGreat
open Go.Vc Sim
set_option maxHeartbeats 8000000
abbrev stT (wb : Nat) (K : Int) (a : Option Addr) (c : Nat) (l : List Ri) : Value := .agg (List.toArray (stC wb K a c l))
abbrev wdA (wb : Nat) (kn : List (Int × Wd)) : Asn := pt wb (mapI (knM kn))
section
variable {K : Int} {m : Int → Int} {l : List Ri}
theorem step_spec (w0 : World) (sh : Shared) (wb : Nat) (hK : 0 ≤ K ∧ K ≤ 60) (a : Option Addr) (c : Nat) (kn : List (Int × Wd)) (N : Int) (hN : N ≤ 1000000) (hW : WM 544 N kn m) (h : TOk K hsI (fun _ => true) m l) (d n v : Int) (hd : 0 ≤ d ∧ d ≤ 255) (l' : List Ri) (hl' : stepL K hsI l d n v = l') :
    Vc.Fn PP w0 sh 37 [stT wb K a c l, .agg (List.toArray [.int .u8 d, .int .i64 n, .int .i64 v])] [wdA wb kn, LstT a c l]
      (fun v Γ => ∃ (st : Ts K l') (nb : Nat) (kn2 : List (Int × Wd)), v = .tuple #[stT nb K st.a st.c l', .bool true] ∧ Γ = [wdA nb kn2, LstT st.a st.c l'] ∧ WM 544 (N + 1) kn2 st.m) := by
  have hlen := (h.few hK).2.2
  refine fn_of_run en37 fn37 rfl rfl rfl ?_
  repeat (first | refine zck ?_ | refine zcl ?_ | refine zcm ?_ | refine zcn ?_)
  first | refine zcp (by kernel_rfl) ?_ | refine zcq PP_mixed (by kernel_rfl) (by kernel_rfl) ?_
  repeat' (refine zap rfl ?_; first | refine zan rfl ?_ | refine zaq (cs := [_, _, _]) rfl (fun nb => ?_) | refine zaq (cs := [_, _, _, _, _, _, _]) rfl (fun nb => ?_) | refine zar (fun nb => ?_))
  all_goals refine zch ?_
  all_goals repeat (first | refine zck ?_ | refine zcl ?_ | refine zcm ?_ | refine zcn ?_)
  rename_i xb cb
  revert nb; intro rb
  refine run_share [3] rfl ?_
  repeat (first | refine zck ?_ | refine zcl ?_ | refine zcm ?_ | refine zcn ?_)
  first | refine zcp (by kernel_rfl) ?_ | refine zcq PP_mixed (by kernel_rfl) (by kernel_rfl) ?_
  repeat' (refine zap rfl ?_; first | refine zae 4 rfl rfl rfl rfl rfl rfl rfl ?_ | refine zar (fun nb => ?_))
  all_goals refine zch ?_
  all_goals repeat (first | refine zck ?_ | refine zcl ?_ | refine zcm ?_ | refine zcn ?_)
  revert nb; intro ob
  repeat (first | refine zck ?_ | refine zcl ?_ | refine zcm ?_ | refine zcn ?_)
  first | refine zcp (by kernel_rfl) ?_ | refine zcq PP_mixed (by kernel_rfl) (by kernel_rfl) ?_
  repeat' (refine zap rfl ?_; first | refine zae 6 rfl rfl rfl rfl rfl rfl rfl ?_ | refine zan rfl ?_ | refine zaa 0 rfl rfl rfl ?_ | refine zab 2 rfl rfl rfl ?_ | refine reg_invokeE [] (trNum w0 n) rfl rfl rfl sub_nil rfl ?_ | refine zao rfl ?_ | refine zan rfl ?_ | refine zae 5 rfl rfl rfl rfl rfl rfl rfl ?_ | refine zar (fun nb => ?_))
  all_goals refine zch ?_
  all_goals repeat (first | refine zck ?_ | refine zcl ?_ | refine zcm ?_ | refine zcn ?_)
  rename_i mb
  revert nb; intro ib
  refine run_bind_eq2 (σ := Nat) (l' := fun hb => [(2, ptr xb), (3, ptr cb), (4, ptr rb), (6, ptr ob), (7, ptr mb), (8, ptr ib), (9, .int .i64 ((rfind l n).1 : Nat)), (10, ptr hb)])
    (Γ' := fun hb => [wdA wb kn, stB xb wb K a c l, pt rb (.cells (List.toArray [.map none, .nilIface, .int .i64 0, .int .i64 0, .int .i64 0, .int .i64 0, .slice none 0 0]) 35 (0, 0)), okB ob true, pt mb (intC n), pt ib (boolC true), pt hb (boolC (rfind l n).2), LstT a c l]) ?_ (fun hb junk => ?_)
  · refine run_lendE [1] rfl fun sh' hi hR => ?_
    repeat (first | refine zck ?_ | refine zcl ?_ | refine zcm ?_ | refine zcn ?_)
    first | refine zcp (by kernel_rfl) ?_ | refine zcq PP_mixed (by kernel_rfl) (by kernel_rfl) ?_
    repeat' (refine zap rfl ?_; first | refine zae 6 rfl rfl rfl rfl rfl rfl rfl ?_ | refine zan rfl ?_ | refine zan rfl ?_ | refine zab 1 rfl rfl rfl ?_ | refine zab 4 rfl rfl rfl ?_ | refine zah [] (rfFind w0 sh' a c l hR (by omega) n) rfl rfl rfl (fun _ h => h) rfl ?_ | refine zao rfl ?_ | refine zan rfl ?_ | refine zar (fun nb => ?_))
    all_goals refine zch ?_
    all_goals repeat (first | refine zck ?_ | refine zcl ?_ | refine zcm ?_ | refine zcn ?_)
    exact run_nil (show _ ∧ ∃ _, _ ∧ _ from ⟨rfl, nb, ⟨rfl, rfl, rfl, rfl, rfl, rfl, rfl, rfl, trivial⟩, rfl⟩)
  have hlk := rfind_le n l
  have hwas : wasL l n = if (rfind l n).2 = true then (match l[(rfind l n).1]? with | some x => x.v | none => 0) else 0 := rfl
  repeat refine zck ?_
  refine run_bind_eq (l' := [(2, ptr xb), (3, ptr cb), (4, ptr rb), (6, ptr ob), (7, ptr mb), (8, ptr ib), (9, .int .i64 ((rfind l n).1 : Nat)), (10, ptr hb)])
    (Γ' := [wdA wb kn, stB xb wb K a c l, pt rb (.cells (List.toArray [.map none, .nilIface, .int .i64 0, .int .i64 0, .int .i64 0, .int .i64 0, .slice none 0 0]) 35 (0, 0)), okB ob true, pt mb (intC n), pt ib (boolC true), pt hb (boolC (rfind l n).2), LstT a c l]) ?_ (fun junk => ?_)
  · cases hf : (rfind l n).2 with
    | true =>
      repeat (first | refine zck ?_ | refine zcl ?_ | refine zcm ?_ | refine zcn ?_)
      first | refine zcp (by kernel_rfl) ?_ | refine zcq PP_mixed (by kernel_rfl) (by kernel_rfl) ?_
      repeat' (refine zap rfl ?_; first | refine zab 6 rfl rfl rfl ?_ | refine zae 6 rfl rfl rfl rfl rfl rfl rfl ?_ | refine zaj rfl ?_ | refine zan rfl ?_ | refine zab 5 rfl rfl rfl ?_ | refine zbu rfl ?_)
      all_goals refine zch ?_
      all_goals repeat (first | refine zck ?_ | refine zcl ?_ | refine zcm ?_ | refine zcn ?_)
      exact run_nil (show _ ∧ _ ∧ _ from ⟨rfl, ⟨rfl, rfl, rfl, rfl, rfl, rfl, rfl, rfl, trivial⟩, rfl⟩)
    | false =>
      repeat (first | refine zck ?_ | refine zcl ?_ | refine zcm ?_ | refine zcn ?_)
      first | refine zcp (by kernel_rfl) ?_ | refine zcq PP_mixed (by kernel_rfl) (by kernel_rfl) ?_
      repeat' (refine zap rfl ?_; first | refine zab 6 rfl rfl rfl ?_ | refine zae 6 rfl rfl rfl rfl rfl rfl rfl ?_ | refine zak rfl ?_ | refine zan rfl ?_ | refine zbv rfl ?_)
      all_goals refine zch ?_
      all_goals repeat (first | refine zck ?_ | refine zcl ?_ | refine zcm ?_ | refine zcn ?_)
      exact run_nil (show _ ∧ _ ∧ _ from ⟨rfl, ⟨rfl, rfl, rfl, rfl, rfl, rfl, rfl, rfl, trivial⟩, rfl⟩)
  refine run_share [4] rfl ?_
  refine run_share [4] rfl ?_
  refine run_share [4] rfl ?_
  repeat (first | refine zck ?_ | refine zcl ?_ | refine zcm ?_ | refine zcn ?_)
  first | refine zcp (by kernel_rfl) ?_ | refine zcq PP_mixed (by kernel_rfl) (by kernel_rfl) ?_
  repeat' (refine zap rfl ?_; first | refine zae 5 rfl rfl rfl rfl rfl rfl rfl ?_ | refine zar (fun nb => ?_))
  all_goals refine zch ?_
  all_goals repeat (first | refine zck ?_ | refine zcl ?_ | refine zcm ?_ | refine zcn ?_)
  revert nb; intro ab
  refine run_take [0, 0, 0, 0, 1, 0] rfl ?_
  repeat (first | refine zck ?_ | refine zcl ?_ | refine zcm ?_ | refine zcn ?_)
  first | refine zcp (by kernel_rfl) ?_ | refine zcq PP_mixed (by kernel_rfl) (by kernel_rfl) ?_
  repeat' (refine zap rfl ?_; first | refine zaa 0 rfl rfl rfl ?_)
  all_goals refine zch ?_
  all_goals repeat (first | refine zck ?_ | refine zcl ?_ | refine zcm ?_ | refine zcn ?_)
  repeat refine zck ?_
  refine run_bind_eq (l' := [(2, ptr xb), (3, ptr cb), (4, ptr rb), (6, ptr ob), (7, ptr mb), (8, ptr ib), (10, ptr hb), (11, ptr ab)])
    (Γ' := [wdA wb kn, stB xb wb K a c l, pt rb (.cells (List.toArray [.map none, .nilIface, .int .i64 0, .int .i64 0, .int .i64 0, .int .i64 0, .slice none 0 0]) 35 (0, 0)), okB ob true, pt ab (intC (wasL l n)), LstT a c l]) ?_ (fun junk => ?_)
  · cases hf : (rfind l n).2 with
    | true =>
      rw [hf, if_pos rfl] at hwas
      have hlt := hlk.2 hf
      have hx : l[(rfind l n).1]? = some l[(rfind l n).1] := List.getElem?_eq_getElem hlt
      rw [hx] at hwas
      dsimp only at hwas
      generalize l[(rfind l n).1] = x at hx hwas
      refine run_lendE [5] rfl fun sh' hi hR => ?_
      obtain ⟨b, off, cc, TT, fr, rfl, hh, _, hcx⟩ := hR.cells hx
      have hc2 := hcx 2 _ rfl
      refine zci rfl ?_
      repeat (first | refine zck ?_ | refine zcl ?_ | refine zcm ?_ | refine zcn ?_)
      first | refine zcp (by kernel_rfl) ?_ | refine zcq PP_mixed (by kernel_rfl) (by kernel_rfl) ?_
      repeat' (refine zap rfl ?_; first | refine zad rfl hh (hc2 _ (by omega)) ?_ | refine zan rfl ?_ | refine zab 1 rfl rfl rfl ?_ | refine zao rfl ?_ | refine zae 4 rfl rfl rfl rfl rfl rfl rfl ?_ | refine zas rfl rfl (by omega) ?_)
      all_goals refine zch ?_
      all_goals repeat (first | refine zck ?_ | refine zcl ?_ | refine zcm ?_ | refine zcn ?_)
      rw [hwas]
      exact run_nil (show _ ∧ _ ∧ _ from ⟨rfl, ⟨rfl, rfl, rfl, rfl, rfl, rfl, rfl, rfl, trivial⟩, rfl⟩)
    | false =>
      rw [hf, if_neg (by decide)] at hwas
      rw [hwas]
      refine zcj rfl ?_
      refine zcm ?_
      exact run_nil (show _ ∧ _ ∧ _ from ⟨rfl, ⟨rfl, rfl, rfl, rfl, rfl, rfl, rfl, rfl, trivial⟩, rfl⟩)
  refine run_share [4] rfl ?_
  have hD := (done_mem (σ := Ts K l') w0 ((ab, intC (wasL l n)) :: (hb, boolC (rfind l n).2) :: (ib, boolC true) :: (mb, intC n) :: (cb, clC d n v) :: sh) wb kn 544 N m hN hW 66 (List.toArray [ptr cb, ptr xb, ptr ab, ptr hb, ptr ob, ptr ib, ptr mb]) (StarsA [stB xb wb K a c l, okB ob true, LstT a c l]) (fun st => StarsA [stB xb wb K st.a st.c l', okB ob true, LstT st.a st.c l']) (fun st => st.m)
    (fun p s hC _ => (step1_spec w0 _ p cb xb ab hb ob ib mb wb hK a c s hC h d n v hd (.tail _ (.tail _ (.tail _ (.tail _ (.head _))))) (.head _) (.tail _ (.head _)) (.tail _ (.tail _ (.head _))) (.tail _ (.tail _ (.tail _ (.head _)))) l' hl').mono (fun v Γ ⟨st, s', j, e1, e2, e3, e4⟩ => ⟨st, s', j, e1, e2, e3, e4⟩))).unpack
    (R' := fun v Γ => ∃ (st : Ts K l') (nb : Nat) (a : Option Addr) (len c : Nat) (kn2 : List (Int × Wd)), v = .tuple #[.map (some nb), .slice a len c, .bool true] ∧ Γ = [wdA nb kn2, stB xb wb K st.a st.c l', okB ob true, LstT st.a st.c l'] ∧ WM 544 (N + 1) kn2 st.m)
    (fun v Γ ⟨st, nb, a, len, c, kn2, e1, e2, e3⟩ => ⟨_, _, e2, st, nb, a, len, c, kn2, e1, rfl, e3⟩)
  refine run_share [0] rfl ?_
  repeat (first | refine zck ?_ | refine zcl ?_ | refine zcm ?_ | refine zcn ?_)
  first | refine zcp (by kernel_rfl) ?_ | refine zcq PP_mixed (by kernel_rfl) (by kernel_rfl) ?_
  repeat' (refine zap rfl ?_; first | refine zan rfl ?_ | refine zan rfl ?_ | refine zab 0 rfl rfl rfl ?_ | (refine zai [0, 1, 1] hD rfl rfl rfl (fun _ h => h) ?_; rintro v Γ' ⟨st, nb, wa, wl, wc, kn2, rfl, rfl, hW2⟩) | refine zao rfl ?_ | refine zan rfl ?_ | refine zan rfl ?_)
  all_goals refine zch ?_
  all_goals repeat (first | refine zck ?_ | refine zcl ?_ | refine zcm ?_ | refine zcn ?_)
  repeat' (first | refine zck ?_ | refine zcp (by kernel_rfl) ?_ | (refine zap rfl ?_; first | refine zaj rfl ?_ | refine zan rfl ?_ | refine zan rfl ?_ | refine zab 1 rfl rfl rfl ?_ | refine zab 2 rfl rfl rfl ?_ | refine zao rfl ?_ | refine zbu rfl ?_ | refine zae 1 rfl rfl rfl rfl rfl rfl rfl ?_ | refine zae 4 rfl rfl rfl rfl rfl rfl rfl ?_) | refine zch ?_)
  exact run_ret (leaves_nil (ends_take [0, 2] rfl (ends_two rfl (resOk_pt 4 rfl rfl rfl) rfl ⟨rfl, st, nb, kn2, rfl, rfl, hW2⟩)))
end
end Go.Proofs.YtloekplbhknepaaGreat

namespace Go.Proofs.YtloekplbhknepaaGreat
open Go.Vc Sim
set_option maxHeartbeats 8000000
section
variable {w0 : World} {n : Nat} {sh shf : Shared} {Q : Exit → Env → List Deferred → List Asn → Prop} {k : List Item} {ρ : Env} {df : List Deferred} {Γ Γ0 Γr : List Asn}
variable {ops : Array Oper} {l : List (Fl × Nat × Oper)} {i : Nat} {ty : TypeId} {pos : String} {aft : Array Edge} {dst : Option Tmp}
variable {f : FuncId} {args : List Value} {fo : Operand} {cargs : Array Operand} {ats : Array TypeId} {first cap : Array Value}
theorem reg_callOX (is : List Nat) {α : Type} {N : Int} {g : Pg α} {s0 s : Sp} {m : Int → Int} {j q p : Nat} {RR : α → Value → List Asn → Prop} {R : α → (Int → Int) → Prop} (hC : Cu N s0 s m j) (hB : Pg.Bd q g) (hO : Pg.Ok N g m R) (hj : j + q ≤ 50000) (spec : FnX w0 shf f args p g Γ0 RR)
    (hfo : ev ρ fo = .func (.func f) first cap) (hargs : first.toList ++ cargs.toList.map (ev ρ) ++ cap.toList = args)
    (hp : pick is Γ = some (SpaceA p s :: Γ0, Γr)) (hsh : ∀ p ∈ shf, p ∈ sh) (h : ∀ x s' m' v Γ1, R x m' → Cu N s0 s' m' (j + q) → RR x v Γ1 → Reg PP w0 n sh Q ops l k (ρ.setO dst v) df (SpaceA p s' :: Γ1 ++ Γr)) :
    Reg PP w0 n sh Q ops ((Fl.loud, i, ⟨dst, .call ⟨.value fo, cargs, ats⟩, ty, pos, aft, none⟩) :: l) k ρ df Γ := by
  obtain ⟨h1, m', h2, h3⟩ := hC.run hB hj hO
  exact zai is (spec s h1) hfo hargs hp hsh (fun v Γ' ⟨Γ1, e1, e2⟩ => by subst e1; exact h _ _ m' v Γ1 h3 h2 e2)
end
section
variable {K : Int} {m : Int → Int} {l : List Ri}
theorem is1_spec (w0 : World) (sh : Shared) (p xb ob wb : Nat) (hK : 0 ≤ K ∧ K ≤ 60) (a : Option Addr) (c : Nat) (s : Sp) (hC : Cu 544 s s m 0) (h : TOk K hsI (fun _ => true) m l) (hxb : (xb, .cells (List.toArray (stC wb K a c l)) 35 (0, 0)) ∈ sh) (hR : RdSl w0 sh encT 3 (.slice a l.length c) l) :
    Vc.Fn PP w0 sh 71 [spP p, ptr xb, ptr ob] [SpaceA p s, okB ob true]
      (fun v Γ => ∃ (s' : Sp), v = .tuple #[] ∧ Γ = [SpaceA p s', okB ob true] ∧ Cu 544 s s' m 0) := by
  have hT := tI_ok hK
  have hlen := (h.few hK).2.2
  have hh0 : ∀ x ∈ l, 0 ≤ x.h := fun x hx => (h.hh x hx).2.2
  have hmx : ∀ hF Γ w, Sh sh hF → St w0 hF Γ w → w.heap[xb]? = some (.cells (List.toArray (stC wb K a c l)) 35 (0, 0)) := fun hF Γ w h1 h2 => (h2.frame (h1 _ hxb)).2
  have hNd := rfNodes w0 sh a c l hR (by omega) hh0
  have hL : (l.map fun x : Ri => (x.n, x.v)).length = l.length := List.length_map _
  refine fn_of_run en71 fn71 rfl rfl rfl ?_
  repeat (first | refine zck ?_ | refine zcl ?_ | refine zcm ?_ | refine zcn ?_)
  first | refine zcp (by kernel_rfl) ?_ | refine zcq PP_mixed (by kernel_rfl) (by kernel_rfl) ?_
  repeat' (refine zap rfl ?_; first | refine zad rfl hmx rfl ?_ | refine zan rfl ?_ | refine zan rfl ?_ | (refine reg_callOX [0] hC (bd_walkS (tI K)) (walkS_ok hK h) (by omega) (trWalk w0 p (tI K) hT) rfl rfl rfl sub_nil ?_; rintro x s1 m1 v Γ1 ⟨rfl, em⟩ hC ⟨a1, c1, a2, c2, rfl, rfl⟩; rw [em] at hC) | refine zao rfl ?_ | refine zan rfl ?_)
  all_goals refine zch ?_
  all_goals repeat (first | refine zck ?_ | refine zcl ?_ | refine zcm ?_ | refine zcn ?_)
  rw [hL]
  refine run_shareV [1] rfl fun sh' hi hk1 hr1 => ?_
  refine run_shareV [1] rfl fun sh2 hi2 hk2 hr2 => ?_
  have hmx2 : ∀ hF Γ w, Sh sh2 hF → St w0 hF Γ w → w.heap[xb]? = some (.cells (List.toArray (stC wb K a c l)) 35 (0, 0)) := fun hF Γ w h1 h2 => (h2.frame (h1 _ (hi2 _ (hi _ hxb)))).2
  have hNd := hNd.share (fun p hp => hi2 _ (hi _ hp))
  repeat (first | refine zck ?_ | refine zcl ?_ | refine zcm ?_ | refine zcn ?_)
  first | refine zcp (by kernel_rfl) ?_ | refine zcq PP_mixed (by kernel_rfl) (by kernel_rfl) ?_
  repeat' (refine zap rfl ?_; first | refine zad rfl hmx2 rfl ?_ | refine zaj rfl ?_ | refine zan rfl ?_ | (refine reg_callO [0] hC (Pg.bd_gt0 17) h.len (by omega) (trLen w0 p (tI K) hT) rfl rfl rfl sub_nil ?_; rintro x s1 m1 ⟨rfl, em⟩ hC; rw [em] at hC) | (refine reg_callO [0] hC (Pg.bd_gt0 23) h.nod (by omega) (getG w0 p 23) rfl rfl rfl sub_nil ?_; rintro x s3 m3 ⟨rfl, em⟩ hC; rw [em] at hC) | refine zah [] hNd rfl rfl rfl (fun _ h => h) rfl ?_ | refine zce rfl ?_ | refine zao rfl ?_ | refine zbc rfl rfl (by omega) ?_ | refine zbu rfl ?_ | refine zae 1 rfl rfl rfl rfl rfl rfl rfl ?_)
  all_goals refine zch ?_
  all_goals repeat (first | refine zck ?_ | refine zcl ?_ | refine zcm ?_ | refine zcn ?_)
  have hR2 : RdSl w0 sh2 encT 3 (.slice a l.length c) l := hR.mono (fun p hp => hi2 _ (hi _ hp))
  have hr1' : ∀ (j : Nat) (x : Ri), l[j]? = some x → ∃ bb c T fr, a1 = some ⟨bb, 0, none⟩ ∧ (∀ hF Γ w, Sh sh2 hF → St w0 hF Γ w → w.heap[bb]? = some (.cells c T fr)) ∧ c[j]? = some (.int .i64 x.n) := fun j x hx => by
    obtain ⟨bb, cc, TT, fr, e1, e2, e3⟩ := hr1 j (.int .i64 x.n) (by simp [intsV, hx])
    exact ⟨bb, cc, TT, fr, e1, fun hF Γ w h1 h2 => e2 hF Γ w (fun q hq => h1 q (hi2 _ hq)) h2, e3⟩
  have hr2' : ∀ (j : Nat) (x : Ri), l[j]? = some x → ∃ bb c T fr, a2 = some ⟨bb, 0, none⟩ ∧ (∀ hF Γ w, Sh sh2 hF → St w0 hF Γ w → w.heap[bb]? = some (.cells c T fr)) ∧ c[j]? = some (.int .i64 x.v) := fun j x hx => hr2 j (.int .i64 x.v) (by simp [intsV, hx])
  clear hr1 hr2
  repeat (first | refine zck ?_ | refine zcl ?_ | refine zcm ?_ | refine zcn ?_)
  first | refine zcp (by kernel_rfl) ?_ | refine zcq PP_mixed (by kernel_rfl) (by kernel_rfl) ?_
  repeat' (refine zap rfl ?_; first | refine zan rfl ?_)
  all_goals refine zch ?_
  all_goals repeat (first | refine zck ?_ | refine zcl ?_ | refine zcm ?_ | refine zcn ?_)
  refine run_slots [(0, spP p), (1, ptr xb), (2, ptr ob), (4, .slice a1 l.length c1), (5, .slice a2 l.length c2), (7, .int .i64 0)] ⟨rfl, rfl, rfl, rfl, rfl, rfl, trivial⟩ (fun junk => ?_)
  refine run_loop (S := Nat) (fun st => [(0, spP p), (1, ptr xb), (2, ptr ob), (4, .slice a1 l.length c1), (5, .slice a2 l.length c2), (7, .int .i64 (st : Int))])
    (fun st Γ => Γ = [SpaceA p s3, okB ob true] ∧ st ≤ l.length) (fun st => l.length - st) 0 ⟨rfl, rfl, rfl, rfl, rfl, rfl, trivial⟩ ⟨rfl, Nat.zero_le _⟩ ?_
  rintro i Γ junk ⟨rfl, hi⟩
  by_cases hlt : i < l.length
  · have hx : l[i]? = some l[i] := List.getElem?_eq_getElem hlt
    generalize l[i] = x at hx
    obtain ⟨b, off, cc, TT, fr, rfl, hh, _, hcx⟩ := hR2.cells hx
    have hc0 := hcx 0 _ rfl
    have hc2 := hcx 2 _ rfl
    obtain ⟨b1, cc1, T1, fr1, rfl, hm1, hg1⟩ := hr1' i x hx
    obtain ⟨b2, cc2, T2, fr2, rfl, hm2, hg2⟩ := hr2' i x hx
    repeat' (first | refine zck ?_ | refine zcp (by kernel_rfl) ?_ | refine zcq PP_mixed (by kernel_rfl) (by kernel_rfl) ?_ | refine zcm ?_ | refine zcl ?_ | refine zcn ?_ | (refine zap rfl ?_; first | refine zad rfl hmx2 rfl ?_ | refine zad rfl hm1 (rd_one hg1 _ (by omega)) ?_ | refine zad rfl hm2 (rd_one hg2 _ (by omega)) ?_ | refine zad rfl hh (hc0 _ (by omega)) ?_ | refine zad rfl hh (hc2 _ (by omega)) ?_ | refine reg_nilI rfl ?_ | refine zaj rfl ?_ | refine zan rfl ?_ | refine zan rfl ?_ | refine zab 1 rfl rfl rfl ?_ | refine reg_invokeE [] (trNum w0 _) rfl rfl rfl sub_nil rfl ?_ | refine zce rfl ?_ | refine zao rfl ?_ | refine zan rfl ?_ | refine zbc rfl rfl (by omega) ?_ | refine zbg rfl rfl (by omega) ?_ | refine zau rfl rfl (by omega) ?_ | refine zbu rfl ?_ | refine zae 1 rfl rfl rfl rfl rfl rfl rfl ?_ | refine zas rfl rfl (by omega) ?_) | refine zch ?_ | refine zci rfl ?_)
    exact cut_end ⟨rfl, i + 1, ⟨rfl, rfl, rfl, rfl, rfl, int_eq (by omega), trivial⟩, ⟨rfl, hlt⟩, by omega⟩
  · repeat' (first | refine zck ?_ | refine zcp (by kernel_rfl) ?_ | (refine zap rfl ?_; first | refine zaj rfl ?_ | refine zan rfl ?_ | refine zab 1 rfl rfl rfl ?_ | refine zce rfl ?_ | refine zbh rfl rfl (by omega) ?_ | refine zbu rfl ?_) | refine zch ?_ | refine zcj rfl ?_)
    refine cut_exit rfl rfl ?_
    repeat' (first | refine zcp (by kernel_rfl) ?_ | (refine zap rfl ?_; first | refine zaj rfl ?_ | refine zan rfl ?_ | refine zab 1 rfl rfl rfl ?_ | (refine zai [0] (writes_spec w0 p s3 (by have := hC.few; omega)) rfl rfl rfl sub_nil ?_; rintro v Γ' ⟨wa, wcap, rfl, rfl⟩; have hw0 : s3.writes.length = 0 := Sp.writes_len0.2 (List.length_eq_zero_iff.1 (by have := hC.few; omega))) | refine zce rfl ?_ | refine zbc rfl rfl (by omega) ?_ | refine zbu rfl ?_ | refine zae 2 rfl rfl rfl rfl rfl rfl rfl ?_) | refine zch ?_)
    exact run_nil (leaves_nil (ends_take [0, 1] rfl (ends_none rfl ⟨rfl, s3, rfl, rfl, hC⟩)))
end
end Go.Proofs.YtloekplbhknepaaGreat

namespace Go.Proofs.YtloekplbhknepaaGreat
open Go.Vc Sim
set_option maxHeartbeats 8000000
section
variable {K : Int} {m : Int → Int} {l : List Ri}
theorem is_spec (w0 : World) (sh : Shared) (wb : Nat) (hK : 0 ≤ K ∧ K ≤ 60) (a : Option Addr) (c : Nat) (kn : List (Int × Wd)) (N : Int) (hN : N ≤ 1000000) (hW : WM 544 N kn m) (h : TOk K hsI (fun _ => true) m l) :
    Vc.Fn PP w0 sh 40 [stT wb K a c l] [wdA wb kn, LstT a c l] (fun v Γ => v = .bool true ∧ Γ = [wdA wb kn, LstT a c l]) := by
  refine fn_of_run en40 fn40 rfl rfl rfl ?_
  refine run_share_keep [0] rfl ?_
  refine run_lendE [0] rfl fun sh' hi hR => ?_
  have hwb : (wb, mapI (knM kn)) ∈ sh' := hi _ (.head _)
  repeat (first | refine zck ?_ | refine zcl ?_ | refine zcm ?_ | refine zcn ?_)
  first | refine zcp (by kernel_rfl) ?_ | refine zcq PP_mixed (by kernel_rfl) (by kernel_rfl) ?_
  repeat' (refine zap rfl ?_; first | refine zan rfl ?_ | refine zaq (cs := [_, _, _, _, _, _, _]) rfl (fun nb => ?_))
  all_goals refine zch ?_
  all_goals repeat (first | refine zck ?_ | refine zcl ?_ | refine zcm ?_ | refine zcn ?_)
  revert nb; intro xb
  refine run_share [0] rfl ?_
  repeat (first | refine zck ?_ | refine zcl ?_ | refine zcm ?_ | refine zcn ?_)
  first | refine zcp (by kernel_rfl) ?_ | refine zcq PP_mixed (by kernel_rfl) (by kernel_rfl) ?_
  repeat' (refine zap rfl ?_; first | refine zae 0 rfl rfl rfl rfl rfl rfl rfl ?_ | refine zar (fun nb => ?_))
  all_goals refine zch ?_
  all_goals repeat (first | refine zck ?_ | refine zcl ?_ | refine zcm ?_ | refine zcn ?_)
  revert nb; intro ob
  have hD := done_mem (σ := Unit) w0 ((xb, .cells (List.toArray (stC wb K a c l)) 35 (0, 0)) :: sh') wb kn 544 N m hN hW 71 (List.toArray [ptr xb, ptr ob]) (okB ob true) (fun _ => okB ob true) (fun _ => m)
    (fun p s hC _ => (is1_spec w0 _ p xb ob wb hK a c s hC h (.head _) (hR.mono fun _ h => .tail _ h)).mono (fun v Γ ⟨s', e1, e2, e3⟩ => ⟨(), s', 0, e1, e2, by decide, e3⟩))
  repeat (first | refine zck ?_ | refine zcl ?_ | refine zcm ?_ | refine zcn ?_)
  first | refine zcp (by kernel_rfl) ?_ | refine zcq PP_mixed (by kernel_rfl) (by kernel_rfl) ?_
  repeat' (refine zap rfl ?_; first | refine zan rfl ?_ | refine zan rfl ?_ | refine zaa 0 rfl rfl rfl ?_ | (refine zai [0] hD rfl rfl rfl (fun p hp => by rcases List.mem_cons.1 hp with e | hp <;> first | (subst e; exact .tail _ hwb) | exact hp) ?_; rintro v Γ' ⟨_, nb, wa, wl, wc, kn2, rfl, rfl, hW2⟩) | refine zao rfl ?_ | refine zan rfl ?_ | refine zan rfl ?_)
  all_goals refine zch ?_
  all_goals repeat (first | refine zck ?_ | refine zcl ?_ | refine zcm ?_ | refine zcn ?_)
  have hA := alike_spec w0 nb wb kn2 kn
  rw [alike_same hW2 hW] at hA
  refine run_share [0] rfl ?_
  repeat' (first | refine zcp (by kernel_rfl) ?_ | (refine zap rfl ?_; first | refine zaj rfl ?_ | refine zan rfl ?_ | refine zan rfl ?_ | refine zaa 1 rfl rfl rfl ?_ | refine zab 0 rfl rfl rfl ?_ | refine zah [] hA rfl rfl rfl (fun p hp => by rcases List.mem_cons.1 hp with e | hp <;> first | (subst e; exact .head _) | (rw [List.mem_singleton.1 hp]; exact .tail _ (.tail _ hwb))) rfl ?_ | refine zao rfl ?_ | refine zbu rfl ?_) | refine zch ?_)
  exact run_ret (leaves_nil (ends_take [2, 1] rfl (ends_one rfl rfl ⟨rfl, rfl, rfl⟩)))
end
end Go.Proofs.YtloekplbhknepaaGreat

namespace Sim
open Go Go.Vc
structure Kl where
  d : Int
  n : Int
  v : Int
def Kl.ok (x : Kl) : Prop := (0 ≤ x.d ∧ x.d ≤ 255) ∧ Go.Vc.i64P x.n ∧ Go.Vc.i64P x.v
abbrev Kl.cells (x : Kl) : List Go.Value := [.int .u8 x.d, .int .i64 x.n, .int .i64 x.v]
def stepK (K : Int) (s : List Ri) (x : Kl) : List Ri := stepL K hsI s x.d x.n x.v
def plT (K : Int) (l : List Kl) (i : Nat) : List Ri := (l.take i).foldl (stepK K) []
theorem plT_succ {K : Int} {l : List Kl} {i : Nat} {x : Kl} (h : l[i]? = some x) : plT K l (i + 1) = stepK K (plT K l i) x := by
  unfold plT
  rw [List.take_add_one, h]
  simp
end Sim
namespace Go.Proofs.YtloekplbhknepaaGreat
open Go.Vc Sim
set_option maxHeartbeats 8000000
instance : TUnd PP 27 (.interface #[("Hash", 60), ("Key", 58), ("Num", 58)]) := ⟨by kernel_rfl⟩
section
theorem played_spec (w0 : World) (sh : Shared) (K : Int) (hK : 0 ≤ K ∧ K ≤ 60) (v : Value) (l : List Kl) (hv : RdSl w0 sh Kl.cells 3 v l) (hok : ∀ x ∈ l, x.ok) (hlen : l.length ≤ 1000000) :
    Vc.Fn PP w0 sh 10 [trV (tI K), v] []
      (fun v Γ => ∃ (st : Ts K (plT K l l.length)) (wb : Nat) (kn : List (Int × Wd)), v = .tuple #[stT wb K st.a st.c (plT K l l.length), .bool true] ∧ Γ = [wdA wb kn, LstT st.a st.c (plT K l l.length)] ∧ WM 544 l.length kn st.m) := by
  have hF := fresh_spec w0 544 (by decide)
  have hW0 := fresh_WM 544 (by decide)
  generalize wk 0 (List.replicate 544 0) = kn0 at hF hW0
  obtain ⟨a, cap, rfl, hcap, _⟩ := id hv
  refine fn_of_run en10 fn10 rfl rfl rfl ?_
  repeat (first | refine zck ?_ | refine zcl ?_ | refine zcm ?_ | refine zcn ?_)
  first | refine zcp (by kernel_rfl) ?_ | refine zcq PP_mixed (by kernel_rfl) (by kernel_rfl) ?_
  repeat' (refine zap rfl ?_; first | refine zan rfl ?_ | refine zaq (cs := [_, _, _, _, _]) rfl (fun nb => ?_) | refine zar (fun nb => ?_))
  all_goals refine zch ?_
  all_goals repeat (first | refine zck ?_ | refine zcl ?_ | refine zcm ?_ | refine zcn ?_)
  rename_i qb
  revert nb; intro tb
  refine run_share [0] rfl ?_
  repeat (first | refine zck ?_ | refine zcl ?_ | refine zcm ?_ | refine zcn ?_)
  first | refine zcp (by kernel_rfl) ?_ | refine zcq PP_mixed (by kernel_rfl) (by kernel_rfl) ?_
  repeat' (refine zap rfl ?_; first | refine zaa 0 rfl rfl rfl ?_ | (refine zai [] hF rfl rfl rfl sub_nil ?_; rintro v Γ' ⟨wb, rfl, rfl⟩) | refine zae 2 rfl rfl rfl rfl rfl rfl rfl ?_ | refine zar (fun nb => ?_) | refine zcb rfl ?_)
  all_goals refine zch ?_
  all_goals repeat (first | refine zck ?_ | refine zcl ?_ | refine zcm ?_ | refine zcn ?_)
  revert nb; intro xb
  repeat (first | refine zck ?_ | refine zcl ?_ | refine zcm ?_ | refine zcn ?_)
  first | refine zcp (by kernel_rfl) ?_ | refine zcq PP_mixed (by kernel_rfl) (by kernel_rfl) ?_
  repeat' (refine zap rfl ?_; first | refine zan rfl ?_ | refine zce rfl ?_)
  all_goals refine zch ?_
  all_goals repeat (first | refine zck ?_ | refine zcl ?_ | refine zcm ?_ | refine zcn ?_)
  refine run_take [1, 0, 0] rfl ?_
  refine run_slots [(4, ptr tb), (6, ptr xb), (14, .slice a l.length cap), (15, .int .i64 l.length), (16, .int .i64 0)] ⟨rfl, rfl, rfl, rfl, rfl, trivial⟩ (fun junk => ?_)
  refine run_emp (A := LstT none 0 []) LstE.nil ?_
  refine run_loop (S := Nat × (Option Addr × Nat) × Nat × List (Int × Wd) × (Int → Int)) (fun st => [(4, ptr tb), (6, ptr xb), (14, .slice a l.length cap), (15, .int .i64 l.length), (16, .int .i64 (st.1 : Int))])
    (fun st Γ => Γ = [pt tb (.cells (List.toArray [.map none, .nilIface, .int .i64 0, .int .i64 0, .int .i64 0, .int .i64 0, .slice none 0 0]) 35 (0, 0)), wdA st.2.2.1 st.2.2.2.1, stB xb st.2.2.1 K st.2.1.1 st.2.1.2 (plT K l st.1), LstT st.2.1.1 st.2.1.2 (plT K l st.1)] ∧ st.1 ≤ l.length ∧
      WM 544 st.1 st.2.2.2.1 st.2.2.2.2 ∧ TOk K hsI (fun _ => true) st.2.2.2.2 (plT K l st.1)) (fun st => l.length - st.1) (0, (none, 0), wb, kn0, fun _ => 0) ⟨rfl, rfl, rfl, rfl, rfl, trivial⟩ ⟨rfl, Nat.zero_le _, hW0, TOk.zero hK⟩ ?_
  rintro ⟨i, ⟨a0, c0⟩, wb, kn, m⟩ Γ junk ⟨rfl, hi, hW, hM⟩
  dsimp only at hi hW hM ⊢
  by_cases hlt : i < l.length
  · have hx : l[i]? = some l[i] := List.getElem?_eq_getElem hlt
    generalize l[i] = x at hx
    have hxo := hok x (List.mem_of_getElem? hx)
    have hS := fun sh => step_spec w0 sh wb hK a0 c0 kn i (by omega) hW hM x.d x.n x.v hxo.1 (plT K l (i + 1)) (plT_succ hx).symm
    generalize hs0 : plT K l i = s0 at hS hM
    generalize hs1 : plT K l (i + 1) = s1 at hS
    obtain ⟨b, off, cc, TT, fr, rfl, hh, hcx, _⟩ := hv.cells hx
    repeat (first | refine zck ?_ | refine zcl ?_ | refine zcm ?_ | refine zcn ?_)
    first | refine zcp (by kernel_rfl) ?_ | refine zcq PP_mixed (by kernel_rfl) (by kernel_rfl) ?_
    repeat' (refine zap rfl ?_; first | refine zbg rfl rfl (by omega) ?_)
    all_goals refine zch ?_
    all_goals repeat (first | refine zck ?_ | refine zcl ?_ | refine zcm ?_ | refine zcn ?_)
    refine zci rfl ?_
    repeat (first | refine zck ?_ | refine zcl ?_ | refine zcm ?_ | refine zcn ?_)
    first | refine zcp (by kernel_rfl) ?_ | refine zcq PP_mixed (by kernel_rfl) (by kernel_rfl) ?_
    repeat' (refine zap rfl ?_; first | refine zad rfl (fun hF Γ w h1 h2 => hh hF Γ w (fun p hp => h1 p (.tail _ hp)) h2) (hcx _ (by omega)) ?_ | refine zae 4 rfl rfl rfl rfl rfl rfl rfl ?_ | refine zas rfl rfl (by omega) ?_ | refine zar (fun nb => ?_))
    all_goals refine zch ?_
    all_goals repeat (first | refine zck ?_ | refine zcl ?_ | refine zcm ?_ | refine zcn ?_)
    revert nb; intro cb
    refine run_share [4] rfl ?_
    repeat (first | refine zck ?_ | refine zcl ?_ | refine zcm ?_ | refine zcn ?_)
    first | refine zcp (by kernel_rfl) ?_ | refine zcq PP_mixed (by kernel_rfl) (by kernel_rfl) ?_
    repeat' (refine zap rfl ?_; first | (refine zai [1, 2] (hS sh) rfl rfl rfl (fun _ h => .tail _ (.tail _ h)) ?_; rintro v Γ' ⟨⟨m1, a1, c1, hM1⟩, wb1, kn1, rfl, rfl, hW1⟩) | refine zan rfl ?_ | refine zan rfl ?_ | refine zaa 0 rfl rfl rfl ?_ | refine zab 2 rfl rfl rfl ?_ | refine zan rfl ?_ | refine zae 4 rfl rfl rfl rfl rfl rfl rfl ?_ | refine zar (fun nb => ?_))
    all_goals refine zch ?_
    all_goals repeat (first | refine zck ?_ | refine zcl ?_ | refine zcm ?_ | refine zcn ?_)
    revert nb; intro nx
    refine run_share [4] rfl ?_
    have hI := is_spec w0 sh wb1 hK a1 c1 kn1 (i + 1) (by omega) hW1 hM1
    repeat (first | refine zck ?_ | refine zcl ?_ | refine zcm ?_ | refine zcn ?_)
    first | refine zcp (by kernel_rfl) ?_ | refine zcq PP_mixed (by kernel_rfl) (by kernel_rfl) ?_
    repeat' (refine zap rfl ?_; first | (refine zai [0, 0] hI rfl rfl rfl (fun _ h => .tail _ (.tail _ (.tail _ h))) ?_; rintro v Γ' ⟨rfl, rfl⟩) | refine reg_eq_nilI rfl rfl ?_ | refine zaj rfl ?_ | refine zan rfl ?_ | refine zaa 0 rfl rfl rfl ?_ | refine zao rfl ?_ | refine zbx rfl ?_ | refine zbv rfl ?_)
    all_goals refine zch ?_
    all_goals repeat (first | refine zck ?_ | refine zcl ?_ | refine zcm ?_ | refine zcn ?_)
    refine zcj rfl ?_
    repeat' (first | refine zcp (by kernel_rfl) ?_ | refine zcm ?_ | refine zcn ?_ | (refine zap rfl ?_; first | refine zan rfl ?_ | refine zaa 0 rfl rfl rfl ?_ | refine zau rfl rfl (by omega) ?_ | refine zae 3 rfl rfl rfl rfl rfl rfl rfl ?_) | refine zch ?_)
    refine run_take [2, 0, 1, 0] rfl ?_
    refine cut_end ⟨rfl, (i + 1, (a1, c1), wb1, kn1, m1), ⟨rfl, rfl, rfl, rfl, int_eq (by dsimp only; omega), trivial⟩, ⟨?_, by dsimp only; omega, ?_, ?_⟩, by dsimp only; omega⟩
    · dsimp only
      rw [hs1]
    · exact (show ((i + 1 : Nat) : Int) = (i : Int) + 1 by omega) ▸ hW1
    · dsimp only
      rw [hs1]
      exact hM1
  · have hil : i = l.length := by omega
    repeat' (first | refine zck ?_ | refine zcp (by kernel_rfl) ?_ | (refine zap rfl ?_; first | refine zbh rfl rfl (by omega) ?_) | refine zch ?_ | refine zcj rfl ?_)
    refine cut_exit rfl rfl ?_
    repeat' (first | refine zck ?_ | refine zcp (by kernel_rfl) ?_ | (refine zap rfl ?_; first | refine zan rfl ?_ | refine zab 2 rfl rfl rfl ?_ | refine zae 0 rfl rfl rfl rfl rfl rfl rfl ?_) | refine zch ?_)
    subst hil
    exact run_ret (leaves_nil (ends_take [1, 2] rfl (ends_two rfl (resOk_pt 0 rfl rfl rfl) rfl ⟨rfl, ⟨m, a0, c0, hM⟩, wb, kn, rfl, rfl, hW⟩)))
end
end Go.Proofs.YtloekplbhknepaaGreat

namespace Go.Proofs.YtloekplbhknepaaGreat
open Go.Vc Sim Go.ChangeShapes Go.WideShapes Go.RowKit
set_option maxRecDepth 100000
theorem cOwn : ownKnob Tryz.prog.godebug = none := by kernel_rfl
theorem cLaid : laidOutB Tryz.prog = true := by kernel_rfl
theorem calls_of {f : FuncId} {args : List Value} {W : World} (h : FnE PP W [] f args [] (.bool true) []) : Calls Tryz.prog f args.toArray W fun e W' => e = .returned (.bool true) ∧ Below W.heap.size W W' := by
  have := h.calls Heap.emp W (fun p hp => by cases hp) (st_start W)
  rw [PP_def] at this
  exact this.mono fun e W' ⟨v, Γ', he, ⟨hv, hΓ⟩, hst⟩ => ⟨by rw [he, hv], below_of_good hst.good⟩
end Go.Proofs.YtloekplbhknepaaGreat

namespace Sim
open Go Go.Vc
def hsN (bt n : Int) : Int := if bt % 4 = 0 then (n - 100) % 16 else if bt % 4 = 1 then (n - 100) % 16 * 512 else if bt % 4 = 2 then (n - 100) % 16 * 4096 else 7
theorem hsN_in (bt n : Int) : 0 ≤ hsN bt n ∧ hsN bt n ≤ 18446744073709551615 := by unfold hsN; split; omega; split; omega; split <;> omega
def hvN (n : Int) : Bool := decide (100 ≤ n ∧ n ≤ 115)
structure Tr.IsN (bt : Int) (T : Tr) : Prop where
  hash : T.hash = hsN bt
  has : T.has = hvN
end Sim
namespace Go.Proofs.YtloekplbhknepaaGreat.NM
open Go.Vc Sim
set_option maxHeartbeats 4000000
instance (bt : Int) : TMeth PP 52 (.agg (List.toArray [.int .u8 bt])) "Num" 165 := ⟨fun w => by kernel_rfl⟩
instance (bt : Int) : TMeth PP 52 (.agg (List.toArray [.int .u8 bt])) "Key" 164 := ⟨fun w => by kernel_rfl⟩
instance (bt : Int) : TMeth PP 52 (.agg (List.toArray [.int .u8 bt])) "Hash" 163 := ⟨fun w => by kernel_rfl⟩
def kN (bt : Int) : Value := .iface 52 (.agg (List.toArray [.int .u8 bt]))
def trVN (bt : Int) (T : Tr) : Value := .agg #[kN bt, .int .i64 T.pool.root, .int .i64 T.pool.frm, .int .i64 T.pool.nodes, .int .i64 T.root]
abbrev nmV (x : Int) : Value := .agg (List.toArray [.int .u8 x])
theorem trNode (w0 : World) (bt : Int) (T : Tr) (hT : T.Ok) (v : Int) : FnE PP w0 [] 120 [trVN bt T, .int .i64 v] [] (.tuple #[.int .i64 (Tr.nodeN v), .bool (T.nodeB v)]) [] := by
  refine fn_of_run en120 fn120 rfl rfl rfl ?_
  repeat (first | refine zck ?_ | refine zcl ?_ | refine zcm ?_ | refine zcn ?_)
  first | refine zcp (by kernel_rfl) ?_ | refine zcq PP_mixed (by kernel_rfl) (by kernel_rfl) ?_
  repeat' (refine zap rfl ?_; first | refine zan rfl ?_ | refine zaq (cs := [_, _, _, _, _]) rfl (fun nb => ?_))
  all_goals refine zch ?_
  all_goals repeat (first | refine zck ?_ | refine zcl ?_ | refine zcm ?_ | refine zcn ?_)
  refine run_share [0] rfl ?_
  repeat' (first | refine zck ?_ | refine zcp (by kernel_rfl) ?_ | refine zcm ?_ | (refine zap rfl ?_; first | refine zaj rfl ?_ | refine zak rfl ?_ | refine zam rfl rfl (fun _ => ?_) (fun _ => ?_) | refine zan rfl ?_ | refine zan rfl ?_ | refine zaa 0 rfl rfl rfl ?_ | refine zah [] (node_spec w0 T.pool hT.pool _) rfl rfl rfl sub_nil rfl ?_ | refine zao rfl ?_ | refine zan rfl ?_ | refine zbr rfl rfl ?_ | refine zbs rfl rfl ?_ | refine zbu rfl ?_ | refine zbv rfl ?_) | refine zch ?_ | refine zci rfl ?_ | refine run_cond rfl (fun _ => ?_) (fun _ => ?_))
  all_goals refine ret_tmp2 rfl ⟨?_, rfl⟩
  all_goals unfold Tr.nodeN Tr.nodeB
  all_goals first | rw [if_pos (by omega), if_pos (by omega)] | rw [if_neg (by omega), if_neg (by omega)]
  all_goals rfl
theorem trAdd (w0 : World) (bt : Int) (p : Nat) (T : Tr) (hT : T.Ok) (c m : Int) (hc : 0 ≤ c ∧ c ≤ 7) : FnG w0 [] 96 [trVN bt T, spP p, .int .i64 c, .int .i64 m] p (T.add c m) encU := by
  have h1 := hT.r0
  have h2 := hT.r1
  intro s hS; have hG := At.start hS; generalize Pg.run _ s = R at hG ⊢
  refine fn_of_run en96 fn96 rfl rfl rfl ?_
  repeat (first | refine zck ?_ | refine zcl ?_ | refine zcm ?_ | refine zcn ?_)
  first | refine zcp (by kernel_rfl) ?_ | refine zcq PP_mixed (by kernel_rfl) (by kernel_rfl) ?_
  repeat' (refine zap rfl ?_; first | refine zaq (cs := [_, _, _, _, _]) rfl (fun nb => ?_))
  all_goals refine zch ?_
  all_goals repeat (first | refine zck ?_ | refine zcl ?_ | refine zcm ?_ | refine zcn ?_)
  refine run_share [1] rfl ?_
  repeat' (first | refine zcq PP_mixed (by kernel_rfl) (by kernel_rfl) ?_ | (refine zap rfl ?_; first | refine reg_add (t := 2) rfl rfl ?_ | refine zan rfl ?_ | refine zaa 0 rfl rfl rfl ?_ | refine reg_callG [0] hG (getG w0 p _) rfl rfl rfl sub_nil (fun u s hG => ?_) | refine reg_callG [0] hG (putG w0 p _ _) rfl rfl rfl sub_nil (fun u s hG => ?_) | refine zao rfl ?_ | refine zau rfl rfl (by omega) ?_) | refine zch ?_)
  rw [hG.done]
  exact end_tmp0 rfl ⟨rfl, rfl⟩
theorem trDown (w0 : World) (bt : Int) (p : Nat) (T : Tr) (hT : T.Ok) (h : Int) (hh : 0 ≤ h) : FnX w0 [] 92 [trVN bt T, spP p, .int .u64 h] p (T.down h) [] wayR := by
  have h1 := hT.r0
  have h2 := hT.r1
  intro s hS; have hG := At.start hS; generalize Pg.run _ s = R at hG ⊢
  unfold Tr.down at hG
  refine fn_of_run en92 fn92 rfl rfl rfl ?_
  repeat (first | refine zck ?_ | refine zcl ?_ | refine zcm ?_ | refine zcn ?_)
  first | refine zcp (by kernel_rfl) ?_ | refine zcq PP_mixed (by kernel_rfl) (by kernel_rfl) ?_
  repeat' (refine zap rfl ?_; first | refine zan rfl ?_ | refine zaq (cs := [_, _, _, _, _]) rfl (fun nb => ?_) | refine zar (fun nb => ?_))
  all_goals refine zch ?_
  all_goals repeat (first | refine zck ?_ | refine zcl ?_ | refine zcm ?_ | refine zcn ?_)
  rename_i tb
  revert nb; intro rb
  refine run_share [1] rfl ?_
  repeat (first | refine zck ?_ | refine zcl ?_ | refine zcm ?_ | refine zcn ?_)
  first | refine zcp (by kernel_rfl) ?_ | refine zcq PP_mixed (by kernel_rfl) (by kernel_rfl) ?_
  repeat' (refine zap rfl ?_; first | refine zaa 0 rfl rfl rfl ?_ | refine zao rfl ?_ | refine zae 2 rfl rfl rfl rfl rfl rfl rfl ?_ | refine zar (fun nb => ?_) | refine zcb rfl ?_)
  all_goals refine zch ?_
  all_goals repeat (first | refine zck ?_ | refine zcl ?_ | refine zcm ?_ | refine zcn ?_)
  refine run_nilslice 28 1 ?_
  refine run_nilslice 28 1 ?_
  refine run_loop (S := Nat × TWay × Sp × (Option Addr × Nat) × (Option Addr × Nat)) (fun st => [(1, spP p), (2, .int .u64 h), (3, .pointer (some ⟨tb, 0, none⟩)), (6, .pointer (some ⟨rb, 0, none⟩)), (8, .pointer (some ⟨nb, 0, none⟩))])
    (fun st Γ => Γ = [SpaceA p st.2.2.1, pt rb (.cells (List.toArray [.slice none 0 0, .slice none 0 0, .int .i64 0, .int .i64 0]) 115 (0, 0)), pt nb (.cells (List.toArray [.slice st.2.2.2.1.1 st.2.1.bs.length st.2.2.2.1.2, .slice st.2.2.2.2.1 st.2.1.cs.length st.2.2.2.2.2, .int .i64 st.2.1.cell, .int .i64 (st.2.1.depth : Int)]) 115 (0, 0)), SlA 28 1 st.2.2.2.1.1 st.2.1.bs.length st.2.2.2.1.2 (intsV st.2.1.bs), SlA 28 1 st.2.2.2.2.1 st.2.1.cs.length st.2.2.2.2.2 (intsV st.2.1.cs)] ∧ At R (T.downK h st.1 st.2.1) st.2.2.1 ∧ st.1 + st.2.1.depth = 5 ∧ Tr.WayOk st.2.1)
    (fun st => st.1) (5, ⟨[], [], T.root, 0⟩, s, (none, 0), (none, 0)) ⟨rfl, rfl, rfl, rfl, rfl, trivial⟩ ⟨rfl, hG, rfl, ⟨rfl, rfl, Nat.zero_le 4, h1, by dsimp only; omega, fun b hb => by cases hb⟩⟩ ?_
  rintro ⟨k, w, s, ⟨a1, c1⟩, ⟨a2, c2⟩⟩ Γ junk ⟨rfl, hG, hk, hw⟩
  dsimp only at hG hk hw ⊢
  obtain ⟨k, rfl⟩ : ∃ q, k = q + 1 := ⟨k - 1, by have := hw.2.2.1; omega⟩
  rw [Tr.downK] at hG
  repeat (first | refine zck ?_ | refine zcl ?_ | refine zcm ?_ | refine zcn ?_)
  first | refine zcp (by kernel_rfl) ?_ | refine zcq PP_mixed (by kernel_rfl) (by kernel_rfl) ?_
  repeat' (refine zap rfl ?_; first | refine zan rfl ?_ | refine zab 2 rfl rfl rfl ?_ | refine reg_callG [0] hG (getG w0 p _) rfl rfl rfl sub_nil (fun u s hG => ?_) | refine zao rfl ?_ | refine zbq rfl rfl ?_)
  all_goals refine zch ?_
  all_goals repeat (first | refine zck ?_ | refine zcl ?_ | refine zcm ?_ | refine zcn ?_)
  refine run_cond rfl (fun hx => ?_) (fun hx => ?_)
  · rw [if_pos hx] at hG
    repeat (first | refine zck ?_ | refine zcl ?_ | refine zcm ?_ | refine zcn ?_)
    first | refine zcp (by kernel_rfl) ?_ | refine zcr [(.quiet, 0), (.quiet, 1), (.quiet, 2), (.read, 3), (.loud, 4), (.quiet, 5), (.loud, 6), (.quiet, 7), (.quiet, 8), (.quiet, 9), (.quiet, 10), (.quiet, 11)] PP_mixed (by kernel_rfl) (by kernel_rfl) ?_ | refine run_drawR PP_mixed (by kernel_rfl) (by kernel_rfl) ?_
    repeat' (refine zap rfl ?_; first | refine reg_neg rfl ?_ | refine zan rfl ?_ | refine zan rfl ?_ | refine zaa 0 rfl rfl rfl ?_ | refine zab 2 rfl rfl rfl ?_ | refine reg_callG [0] hG (getG w0 p _) rfl rfl rfl sub_nil (fun v s hG => ?_) | refine zah [] (trNode w0 bt T hT _) rfl rfl rfl sub_nil rfl ?_ | refine zao rfl ?_ | refine zan rfl ?_)
    all_goals refine zch ?_
    all_goals repeat (first | refine zck ?_ | refine zcl ?_ | refine zcm ?_ | refine zcn ?_)
    generalize hb : T.nodeB (w64 (0 - v)) = b at hG
    have hb' : T.nodeB (IntKind.i64.wrap (0 - v)) = b := hb
    rw [hb']
    have hnb := Tr.nodeN_bd (IntKind.i64.wrap (0 - v))
    cases b with
    | false =>
      simp only [Bool.false_eq_true, if_false] at hG
      rw [hG.done]
      repeat' (first | refine zck ?_ | refine zcp (by kernel_rfl) ?_ | (refine zap rfl ?_; first | refine zak rfl ?_ | refine zan rfl ?_ | refine zan rfl ?_ | refine zab 2 rfl rfl rfl ?_ | refine zbx rfl ?_ | refine zbu rfl ?_ | refine zae 1 rfl rfl rfl rfl rfl rfl rfl ?_) | refine zch ?_ | refine zci rfl ?_)
      exact qret rfl (fun _ _ h => h) (leaves_nil (ends_take [0, 2, 2] rfl (ends_two rfl (resOk_pt 1 rfl rfl rfl) rfl ⟨rfl, _, rfl, a1, c1, a2, c2, rfl, rfl⟩)))
    | true =>
      simp only [if_true] at hG
      by_cases h4 : w.depth = 4
      · rw [if_pos h4] at hG
        rw [hG.done]
        repeat' (first | refine zck ?_ | refine zcp (by kernel_rfl) ?_ | (refine zap rfl ?_; first | refine zaj rfl ?_ | refine zan rfl ?_ | refine zan rfl ?_ | refine zab 2 rfl rfl rfl ?_ | refine zao rfl ?_ | refine zbc rfl rfl (by omega) ?_ | refine zbx rfl ?_ | refine zbv rfl ?_ | refine zae 1 rfl rfl rfl rfl rfl rfl rfl ?_) | refine zch ?_ | refine zci rfl ?_)
        exact qret rfl (fun _ _ h => h) (leaves_nil (ends_take [0, 2, 2] rfl (ends_two rfl (resOk_pt 1 rfl rfl rfl) rfl ⟨rfl, _, rfl, a1, c1, a2, c2, rfl, rfl⟩)))
      · rw [if_neg h4] at hG
        have hdb := dig_bd8 h w.depth
        obtain ⟨hw1, hw2, hwd, hw4, hw5, hw6⟩ := id hw
        repeat (first | refine zck ?_ | refine zcl ?_ | refine zcm ?_ | refine zcn ?_)
        first | refine zcp (by kernel_rfl) ?_ | refine zcq PP_mixed (by kernel_rfl) (by kernel_rfl) ?_
        repeat' (refine zap rfl ?_; first | refine zaj rfl ?_ | refine zan rfl ?_ | refine zab 2 rfl rfl rfl ?_ | refine zao rfl ?_ | refine zbd rfl rfl (by omega) ?_ | refine zbx rfl ?_ | refine zbv rfl ?_)
        all_goals refine zch ?_
        all_goals repeat (first | refine zck ?_ | refine zcl ?_ | refine zcm ?_ | refine zcn ?_)
        refine zcj rfl ?_
        repeat (first | refine zck ?_ | refine zcl ?_ | refine zcm ?_ | refine zcn ?_)
        refine run_drawT [2] [(.quiet, 0), (.quiet, 1), (.quiet, 2), (.loud, 3), (.loud, 4), (.quiet, 5), (.quiet, 6), (.quiet, 7), (.quiet, 8), (.loud, 9), (.loud, 10), (.quiet, 11)] [(.loud, 12), (.quiet, 13), (.loud, 14)] PP_mixed (by kernel_rfl) (by kernel_rfl) rfl ?_
        repeat' (refine zap rfl ?_; first | refine reg_buildSlice rfl rfl rfl rfl rfl rfl (fun nb2 => ?_) | refine reg_append 2 4 rfl rfl rfl rfl rfl rfl rfl rfl (by first | omega | (dsimp only; omega)) (fun _ _ => rfl) (fun a1' c1' => ?_) | refine reg_append 3 5 rfl rfl rfl rfl rfl rfl rfl rfl (by first | omega | (dsimp only; omega)) (fun _ _ => rfl) (fun a2' c2' => ?_) | refine zan rfl ?_ | refine zaa 0 rfl rfl rfl ?_ | refine zao rfl ?_)
        all_goals refine reg_turn ?_
        all_goals repeat' (refine zap rfl ?_; first | refine zao rfl ?_ | refine zae 0 rfl rfl rfl rfl rfl rfl rfl ?_)
        all_goals refine zch ?_
        all_goals repeat (first | refine zck ?_ | refine zcl ?_ | refine zcm ?_ | refine zcn ?_)
        repeat' (first | refine zcp (by kernel_rfl) ?_ | refine zcn ?_ | (refine zap rfl ?_; first | refine reg_shr (q := 3 * w.depth) rfl (int_eq (by omega)) (by show 3 * w.depth ≤ 64; omega) ?_ | refine reg_dig (q := w.depth) hh rfl rfl ?_ | refine zab 0 rfl rfl rfl ?_ | refine zae 0 rfl rfl rfl rfl rfl rfl rfl ?_ | refine zan rfl ?_ | refine zao rfl ?_ | refine zau rfl rfl (by omega) ?_ | refine zaw rfl rfl (by omega) ?_ | refine zbz rfl (by omega) ?_) | refine zch ?_)
        refine run_take [1, 1, 0, 0, 0] rfl ?_
        have e1 : intsV (w.bs ++ [Tr.nodeN (w64 (0 - v))]) = intsV w.bs ++ [.int .i64 (Tr.nodeN (w64 (0 - v)))] := by simp [intsV]
        have e2 : intsV (w.cs ++ [w.cell]) = intsV w.cs ++ [.int .i64 w.cell] := by simp [intsV]
        have e3 : ((w.depth + 1 : Nat) : Int) = (w.depth : Int) + 1 := by omega
        refine cut_end ⟨rfl, (k, ⟨w.bs ++ [Tr.nodeN (w64 (0 - v))], w.cs ++ [w.cell], Tr.nodeN (w64 (0 - v)) + dig h w.depth, w.depth + 1⟩, s, (a1', c1'), (a2', c2')), ⟨rfl, rfl, rfl, rfl, rfl, trivial⟩, ⟨?_, hG, by dsimp only; omega, Tr.wayOk_next hw h4 _ h⟩, Nat.lt_succ_self k⟩
        dsimp only
        rw [e1, e2, e3, List.length_append, List.length_append]
        rfl
  · rw [if_neg hx] at hG
    rw [hG.done]
    refine cut_exit rfl rfl ?_
    repeat (first | refine zck ?_ | refine zcl ?_ | refine zcm ?_ | refine zcn ?_)
    first | refine zcp (by kernel_rfl) ?_ | refine zcq PP_mixed (by kernel_rfl) (by kernel_rfl) ?_
    repeat' (refine zap rfl ?_; first | refine zan rfl ?_ | refine zab 2 rfl rfl rfl ?_ | refine zae 1 rfl rfl rfl rfl rfl rfl rfl ?_)
    all_goals refine zch ?_
    all_goals repeat (first | refine zck ?_ | refine zcl ?_ | refine zcm ?_ | refine zcn ?_)
    exact run_ret (leaves_nil (ends_take [0, 2, 2] rfl (ends_two rfl (resOk_pt 1 rfl rfl rfl) rfl ⟨rfl, _, rfl, a1, c1, a2, c2, rfl, rfl⟩)))
end Go.Proofs.YtloekplbhknepaaGreat.NM

namespace Go.Proofs.YtloekplbhknepaaGreat.NM
open Go.Vc Sim
set_option maxHeartbeats 4000000
theorem nmNum (w0 : World) (bt x : Int) (h : 97 ≤ x ∧ x ≤ 112) : FnE PP w0 [] 165 [.agg (List.toArray [.int .u8 bt]), nmV x] [] (.tuple #[.int .i64 (x + 3), .bool true]) [] := by
  refine fn_of_run en165 fn165 rfl rfl rfl ?_
  repeat' (first | refine zck ?_ | refine zcp (by kernel_rfl) ?_ | refine zcm ?_ | (refine zap rfl ?_; first | refine reg_subE rfl rfl (wrap_u8 (x := x - 97) (by omega)) ?_ | refine zaj rfl ?_ | refine zan rfl ?_ | refine zan rfl ?_ | refine zab 1 rfl rfl rfl ?_ | refine zao rfl ?_ | refine zbh rfl rfl (by omega) ?_ | refine zbl rfl rfl (by omega) ?_ | refine zau rfl rfl (by omega) ?_ | refine zbv rfl ?_ | refine zaq (cs := [_]) rfl (fun nb => ?_) | refine zbz rfl (by omega) ?_) | refine zch ?_ | refine zcj rfl ?_)
  refine run_take [] rfl ?_
  exact ret_tmp2 rfl ⟨congrArg (fun z => Value.tuple #[.int .i64 z, .bool true]) (by omega), rfl⟩
theorem nmNumN (w0 : World) (bt n : Int) (h : 100 ≤ n ∧ n ≤ 115) : FnE PP w0 [] 165 [.agg (List.toArray [.int .u8 bt]), nmV (n - 3)] [] (.tuple #[.int .i64 n, .bool true]) [] := by
  have := nmNum w0 bt (n - 3) (by omega)
  rw [show n - 3 + 3 = n by omega] at this
  exact this
theorem nmNum0 (w0 : World) (bt x : Int) (h : ¬ (97 ≤ x ∧ x ≤ 112)) : FnE PP w0 [] 165 [.agg (List.toArray [.int .u8 bt]), nmV x] [] (.tuple #[.int .i64 0, .bool false]) [] := by
  by_cases h1 : x < 97
  · refine fn_of_run en165 fn165 rfl rfl rfl ?_
    repeat' (first | refine zck ?_ | refine zcp (by kernel_rfl) ?_ | (refine zap rfl ?_; first | refine zak rfl ?_ | refine zan rfl ?_ | refine zan rfl ?_ | refine zab 1 rfl rfl rfl ?_ | refine zao rfl ?_ | refine zbg rfl rfl (by omega) ?_ | refine zbu rfl ?_ | refine zaq (cs := [_]) rfl (fun nb => ?_)) | refine zch ?_ | refine zci rfl ?_)
    refine run_take [] rfl ?_
    exact ret_tmp2 rfl ⟨rfl, rfl⟩
  · refine fn_of_run en165 fn165 rfl rfl rfl ?_
    repeat' (first | refine zck ?_ | refine zcp (by kernel_rfl) ?_ | (refine zap rfl ?_; first | refine zaj rfl ?_ | refine zan rfl ?_ | refine zan rfl ?_ | refine zab 1 rfl rfl rfl ?_ | refine zao rfl ?_ | refine zbh rfl rfl (by omega) ?_ | refine zbk rfl rfl (by omega) ?_ | refine zbv rfl ?_ | refine zaq (cs := [_]) rfl (fun nb => ?_)) | refine zch ?_ | refine zci rfl ?_)
    refine run_take [] rfl ?_
    exact ret_tmp2 rfl ⟨rfl, rfl⟩
theorem nmKey (w0 : World) (bt n : Int) (h : 100 ≤ n ∧ n ≤ 115) : FnE PP w0 [] 164 [.agg (List.toArray [.int .u8 bt]), .int .i64 n] [] (.tuple #[nmV (n - 3), .bool true]) [] := by
  refine fn_of_run en164 fn164 rfl rfl rfl ?_
  repeat' (first | refine zck ?_ | refine zcp (by kernel_rfl) ?_ | refine zcm ?_ | (refine zap rfl ?_; first | refine reg_convE (r := n - 3) rfl (by rw [show (97 : Int) + n - 100 = n - 3 by omega]; exact wrap_u8 (by omega)) ?_ | refine zaj rfl ?_ | refine zan rfl ?_ | refine zan rfl ?_ | refine zbh rfl rfl (by omega) ?_ | refine zbl rfl rfl (by omega) ?_ | refine zau rfl rfl (by omega) ?_ | refine zav rfl rfl (by omega) ?_ | refine zbv rfl ?_ | refine zae 1 rfl rfl rfl rfl rfl rfl rfl ?_ | refine zaq (cs := [_]) rfl (fun nb => ?_) | refine zar (fun nb => ?_) | refine zcb rfl ?_) | refine zch ?_ | refine zcj rfl ?_)
  exact run_ret (leaves_nil (ends_take [] rfl (ends_two rfl (resOk_pt 1 rfl rfl rfl) rfl ⟨rfl, rfl, rfl⟩)))
theorem nmKey0 (w0 : World) (bt n : Int) (h : ¬ (100 ≤ n ∧ n ≤ 115)) : FnE PP w0 [] 164 [.agg (List.toArray [.int .u8 bt]), .int .i64 n] [] (.tuple #[nmV 0, .bool false]) [] := by
  by_cases h1 : n < 100
  · refine fn_of_run en164 fn164 rfl rfl rfl ?_
    repeat' (first | refine zck ?_ | refine zcp (by kernel_rfl) ?_ | (refine zap rfl ?_; first | refine zak rfl ?_ | refine zan rfl ?_ | refine zan rfl ?_ | refine zbg rfl rfl (by omega) ?_ | refine zbu rfl ?_ | refine zae 1 rfl rfl rfl rfl rfl rfl rfl ?_ | refine zaq (cs := [_]) rfl (fun nb => ?_) | refine zar (fun nb => ?_) | refine zcb rfl ?_) | refine zch ?_ | refine zci rfl ?_)
    exact run_ret (leaves_nil (ends_take [] rfl (ends_two rfl (resOk_pt 1 rfl rfl rfl) rfl ⟨rfl, rfl, rfl⟩)))
  · refine fn_of_run en164 fn164 rfl rfl rfl ?_
    repeat' (first | refine zck ?_ | refine zcp (by kernel_rfl) ?_ | (refine zap rfl ?_; first | refine zaj rfl ?_ | refine zan rfl ?_ | refine zan rfl ?_ | refine zbh rfl rfl (by omega) ?_ | refine zbk rfl rfl (by omega) ?_ | refine zbv rfl ?_ | refine zae 1 rfl rfl rfl rfl rfl rfl rfl ?_ | refine zaq (cs := [_]) rfl (fun nb => ?_) | refine zar (fun nb => ?_) | refine zcb rfl ?_) | refine zch ?_ | refine zci rfl ?_)
    exact run_ret (leaves_nil (ends_take [] rfl (ends_two rfl (resOk_pt 1 rfl rfl rfl) rfl ⟨rfl, rfl, rfl⟩)))
theorem nmHash (w0 : World) (bt n : Int) (hb : 0 ≤ bt ∧ bt ≤ 255) (h : 100 ≤ n ∧ n ≤ 115) : FnE PP w0 [] 163 [.agg (List.toArray [.int .u8 bt]), nmV (n - 3)] [] (.int .u64 (hsN bt n)) [] := by
  have hb4 : bt.tmod 4 = bt % 4 := Int.tmod_eq_emod_of_nonneg hb.1
  unfold hsN
  have e16 : (n - 100) % 16 = n - 100 := by omega
  rw [e16]
  by_cases c0 : bt % 4 = 0
  · rw [if_pos c0]
    refine fn_of_run en163 fn163 rfl rfl rfl ?_
    repeat' (first | refine zck ?_ | refine zcp (by kernel_rfl) ?_ | refine zcl ?_ | (refine zap rfl ?_; first | (refine reg_rem rfl rfl (by decide) ?_; rw [hb4]) | refine reg_subE (r := n - 100) rfl rfl (by rw [show n - 3 - 97 = n - 100 by omega]; exact wrap_u8 (by omega)) ?_ | refine reg_convE (r := n - 100) rfl (wrap_u64 (by omega)) ?_ | refine reg_andE (r := n - 100) rfl rfl (and15 (by omega) (by omega)) ?_ | refine zan rfl ?_ | refine zan rfl ?_ | refine zab 0 rfl rfl rfl ?_ | refine zab 1 rfl rfl rfl ?_ | refine zao rfl ?_ | refine zbc rfl rfl (by omega) ?_ | refine zaq (cs := [_]) rfl (fun nb => ?_)) | refine zch ?_ | refine zci rfl ?_)
    refine run_take [] rfl ?_
    exact ret_tmp1 rfl ⟨rfl, rfl⟩
  rw [if_neg c0]
  by_cases c1 : bt % 4 = 1
  · rw [if_pos c1]
    refine fn_of_run en163 fn163 rfl rfl rfl ?_
    repeat' (first | refine zck ?_ | refine zcp (by kernel_rfl) ?_ | refine zcl ?_ | (refine zap rfl ?_; first | (refine reg_rem rfl rfl (by decide) ?_; rw [hb4]) | refine reg_subE (r := n - 100) rfl rfl (by rw [show n - 3 - 97 = n - 100 by omega]; exact wrap_u8 (by omega)) ?_ | refine reg_convE (r := n - 100) rfl (wrap_u64 (by omega)) ?_ | refine reg_andE (r := n - 100) rfl rfl (and15 (by omega) (by omega)) ?_ | refine reg_shlE (q := 9) (r := (n - 100) * 512) rfl rfl (by decide) (by show IntKind.u64.wrap ((n - 100) * 512) = _; exact wrap_u64 (by omega)) ?_ | refine zan rfl ?_ | refine zan rfl ?_ | refine zab 0 rfl rfl rfl ?_ | refine zab 1 rfl rfl rfl ?_ | refine zao rfl ?_ | refine zbc rfl rfl (by omega) ?_ | refine zbd rfl rfl (by omega) ?_ | refine zaq (cs := [_]) rfl (fun nb => ?_)) | refine zch ?_ | refine zci rfl ?_ | refine zcj rfl ?_)
    refine run_take [] rfl ?_
    exact ret_tmp1 rfl ⟨rfl, rfl⟩
  rw [if_neg c1]
  by_cases c2 : bt % 4 = 2
  · rw [if_pos c2]
    refine fn_of_run en163 fn163 rfl rfl rfl ?_
    repeat' (first | refine zck ?_ | refine zcp (by kernel_rfl) ?_ | refine zcl ?_ | (refine zap rfl ?_; first | (refine reg_rem rfl rfl (by decide) ?_; rw [hb4]) | refine reg_subE (r := n - 100) rfl rfl (by rw [show n - 3 - 97 = n - 100 by omega]; exact wrap_u8 (by omega)) ?_ | refine reg_convE (r := n - 100) rfl (wrap_u64 (by omega)) ?_ | refine reg_andE (r := n - 100) rfl rfl (and15 (by omega) (by omega)) ?_ | refine reg_shlE (q := 12) (r := (n - 100) * 4096) rfl rfl (by decide) (by show IntKind.u64.wrap ((n - 100) * 4096) = _; exact wrap_u64 (by omega)) ?_ | refine zan rfl ?_ | refine zan rfl ?_ | refine zab 0 rfl rfl rfl ?_ | refine zab 1 rfl rfl rfl ?_ | refine zao rfl ?_ | refine zbc rfl rfl (by omega) ?_ | refine zbd rfl rfl (by omega) ?_ | refine zaq (cs := [_]) rfl (fun nb => ?_)) | refine zch ?_ | refine zci rfl ?_ | refine zcj rfl ?_)
    refine run_take [] rfl ?_
    exact ret_tmp1 rfl ⟨rfl, rfl⟩
  rw [if_neg c2]
  refine fn_of_run en163 fn163 rfl rfl rfl ?_
  repeat' (first | refine zck ?_ | refine zcp (by kernel_rfl) ?_ | refine zcm ?_ | refine zcl ?_ | refine zcn ?_ | (refine zap rfl ?_; first | (refine reg_rem rfl rfl (by decide) ?_; rw [hb4]) | refine reg_subE (r := n - 100) rfl rfl (by rw [show n - 3 - 97 = n - 100 by omega]; exact wrap_u8 (by omega)) ?_ | refine reg_convE (r := n - 100) rfl (wrap_u64 (by omega)) ?_ | refine reg_andE (r := n - 100) rfl rfl (and15 (by omega) (by omega)) ?_ | refine zan rfl ?_ | refine zab 0 rfl rfl rfl ?_ | refine zab 1 rfl rfl rfl ?_ | refine zao rfl ?_ | refine zbd rfl rfl (by omega) ?_ | refine zaq (cs := [_]) rfl (fun nb => ?_)) | refine zch ?_ | refine zcj rfl ?_)
  refine run_take [] rfl ?_
  exact ret_tmp1 rfl ⟨rfl, rfl⟩
end Go.Proofs.YtloekplbhknepaaGreat.NM

namespace Go.Proofs.YtloekplbhknepaaGreat.NM
open Go.Vc Sim
set_option maxHeartbeats 4000000
theorem trLeaf (w0 : World) (bt : Int) (p : Nat) (T : Tr) (hT : T.Ok) (w : TWay) (hw : Tr.WayOk w) (a1 : Option Addr) (c1 : Nat) (a2 : Option Addr) (c2 : Nat) (n : Int) : FnG w0 [] 93 [trVN bt T, spP p, wayV a1 c1 a2 c2 w, .int .i64 n] p (T.leaf w n) encLf := by
  obtain ⟨hw1, hw2, hw3, hw4, hw5, hw6⟩ := id hw
  have hN0 := hT.pool.2.2.2.2.2.1
  have hN1 := hT.nodes
  obtain ⟨N, hN⟩ : ∃ N : Nat, T.pool.nodes = (N : Int) := ⟨T.pool.nodes.toNat, by omega⟩
  have hNt : T.pool.nodes.toNat = N := by omega
  intro s hS; have hG := At.start hS; generalize Pg.run _ s = R at hG ⊢
  unfold Tr.leaf at hG
  rw [hNt] at hG
  refine fn_of_run en93 fn93 rfl rfl rfl ?_
  repeat (first | refine zck ?_ | refine zcl ?_ | refine zcm ?_ | refine zcn ?_)
  first | refine zcp (by kernel_rfl) ?_ | refine zcq PP_mixed (by kernel_rfl) (by kernel_rfl) ?_
  repeat' (refine zap rfl ?_; first | refine zan rfl ?_ | refine zaq (cs := [_, _, _, _]) rfl (fun nb => ?_) | refine zaq (cs := [_, _, _, _, _]) rfl (fun nb => ?_))
  all_goals refine zch ?_
  all_goals repeat (first | refine zck ?_ | refine zcl ?_ | refine zcm ?_ | refine zcn ?_)
  rename_i tb
  revert nb; intro wb
  refine run_share [1] rfl ?_
  refine run_share [1] rfl ?_
  repeat (first | refine zck ?_ | refine zcl ?_ | refine zcm ?_ | refine zcn ?_)
  first | refine zcp (by kernel_rfl) ?_ | refine zcq PP_mixed (by kernel_rfl) (by kernel_rfl) ?_
  repeat' (refine zap rfl ?_; first | refine zan rfl ?_ | refine zaa 0 rfl rfl rfl ?_ | refine zao rfl ?_)
  all_goals refine zch ?_
  all_goals repeat (first | refine zck ?_ | refine zcl ?_ | refine zcm ?_ | refine zcn ?_)
  repeat (first | refine zck ?_ | refine zcl ?_ | refine zcm ?_ | refine zcn ?_)
  first | refine zcp (by kernel_rfl) ?_ | refine zcq PP_mixed (by kernel_rfl) (by kernel_rfl) ?_
  repeat' (refine zap rfl ?_; first | refine zan rfl ?_)
  all_goals refine zch ?_
  all_goals repeat (first | refine zck ?_ | refine zcl ?_ | refine zcm ?_ | refine zcn ?_)
  refine run_loop (S := Nat × Int × Sp) (fun st => [(1, spP p), (3, .int .i64 n), (4, .pointer (some ⟨tb, 0, none⟩)), (6, .pointer (some ⟨wb, 0, none⟩)), (11, .int .i64 st.2.1), (12, .int .i64 (st.1 : Int))])
    (fun st Γ => Γ = [SpaceA p st.2.2] ∧ At R (T.leafK n w.depth (N - st.1) st.2.1) st.2.2 ∧ st.1 ≤ N)
    (fun st => N - st.1) (0, w.cell, s) ⟨rfl, rfl, rfl, rfl, rfl, rfl, trivial⟩ ⟨rfl, hG, Nat.zero_le _⟩ ?_
  rintro ⟨i, c, s⟩ Γ junk ⟨rfl, hG, hi⟩
  dsimp only at hG hi ⊢
  by_cases hlt : i < N
  · obtain ⟨k, hk⟩ : ∃ k, N - i = k + 1 := ⟨N - i - 1, by omega⟩
    rw [hk, Tr.leafK] at hG
    repeat (first | refine zck ?_ | refine zcl ?_ | refine zcm ?_ | refine zcn ?_)
    first | refine zcp (by kernel_rfl) ?_ | refine zcq PP_mixed (by kernel_rfl) (by kernel_rfl) ?_
    repeat' (refine zap rfl ?_; first | refine zan rfl ?_ | refine reg_callG [0] hG (getG w0 p _) rfl rfl rfl sub_nil (fun x s hG => ?_) | refine zbp rfl rfl ?_)
    all_goals refine zch ?_
    all_goals repeat (first | refine zck ?_ | refine zcl ?_ | refine zcm ?_ | refine zcn ?_)
    refine run_cond rfl (fun hx => ?_) (fun hx => ?_)
    · rw [if_neg hx] at hG
      repeat (first | refine zck ?_ | refine zcl ?_ | refine zcm ?_ | refine zcn ?_)
      first | refine zcp (by kernel_rfl) ?_ | refine zcq PP_mixed (by kernel_rfl) (by kernel_rfl) ?_
      repeat' (refine zap rfl ?_; first | refine zan rfl ?_ | refine zan rfl ?_ | refine zaa 1 rfl rfl rfl ?_ | refine reg_callG [0] hG (getG w0 p _) rfl rfl rfl sub_nil (fun v s hG => ?_) | refine zah [] (trNode w0 bt T hT _) rfl rfl rfl sub_nil rfl ?_ | refine zan rfl ?_)
      all_goals refine zch ?_
      all_goals repeat (first | refine zck ?_ | refine zcl ?_ | refine zcm ?_ | refine zcn ?_)
      have hnb := Tr.nodeN_bd v
      generalize hb : T.nodeB v = b at hG ⊢
      cases b with
      | false =>
        simp only [Bool.false_eq_true, if_false] at hG
        rw [hG.done]
        repeat' (first | refine zck ?_ | refine zcp (by kernel_rfl) ?_ | (refine zap rfl ?_; first | refine zak rfl ?_ | refine zan rfl ?_ | refine zan rfl ?_ | refine zbx rfl ?_ | refine zbu rfl ?_) | refine zch ?_ | refine zci rfl ?_)
        exact qret3 (fun _ _ h => h) rfl ⟨rfl, rfl⟩
      | true =>
        simp only [if_true] at hG
        repeat (first | refine zck ?_ | refine zcl ?_ | refine zcm ?_ | refine zcn ?_)
        first | refine zcp (by kernel_rfl) ?_ | refine zcq PP_mixed (by kernel_rfl) (by kernel_rfl) ?_
        repeat' (refine zap rfl ?_; first | refine zaj rfl ?_ | refine zan rfl ?_ | refine zaa 1 rfl rfl rfl ?_ | refine zao rfl ?_ | refine zbn rfl rfl (by omega) ?_ | refine zbx rfl ?_ | refine zbv rfl ?_)
        all_goals refine zch ?_
        all_goals repeat (first | refine zck ?_ | refine zcl ?_ | refine zcm ?_ | refine zcn ?_)
        refine zcj rfl ?_
        repeat (first | refine zck ?_ | refine zcl ?_ | refine zcm ?_ | refine zcn ?_)
        first | refine zcp (by kernel_rfl) ?_ | refine zcq PP_mixed (by kernel_rfl) (by kernel_rfl) ?_
        repeat' (refine zap rfl ?_; first | refine zan rfl ?_ | refine reg_callG [0] hG (getG w0 p _) rfl rfl rfl sub_nil (fun u s hG => ?_) | refine zbo rfl rfl ?_)
        all_goals refine zch ?_
        all_goals repeat (first | refine zck ?_ | refine zcl ?_ | refine zcm ?_ | refine zcn ?_)
        refine run_cond rfl (fun hz => ?_) (fun hz => ?_)
        · rw [if_pos hz] at hG
          rw [hG.done]
          repeat' (first | refine zck ?_ | refine zcp (by kernel_rfl) ?_ | (refine zap rfl ?_; first | refine zan rfl ?_ | refine zan rfl ?_) | refine zch ?_)
          exact qret3 (fun _ _ h => h) rfl ⟨rfl, rfl⟩
        · rw [if_neg hz] at hG
          by_cases h4 : w.depth < 4
          · rw [if_pos h4] at hG
            rw [hG.done]
            repeat (first | refine zck ?_ | refine zcl ?_ | refine zcm ?_ | refine zcn ?_)
            first | refine zcp (by kernel_rfl) ?_ | refine zcq PP_mixed (by kernel_rfl) (by kernel_rfl) ?_
            repeat' (refine zap rfl ?_; first | refine zaa 0 rfl rfl rfl ?_ | refine zao rfl ?_ | refine zbg rfl rfl (by omega) ?_)
            all_goals refine zch ?_
            all_goals repeat (first | refine zck ?_ | refine zcl ?_ | refine zcm ?_ | refine zcn ?_)
            refine zci rfl ?_
            refine cut_exit rfl rfl ?_
            repeat' (first | refine zck ?_ | refine zcp (by kernel_rfl) ?_ | (refine zap rfl ?_; first | refine zan rfl ?_ | refine zan rfl ?_) | refine zch ?_)
            exact ret_tmp3 rfl ⟨rfl, rfl⟩
          · rw [if_neg h4] at hG
            repeat (first | refine zck ?_ | refine zcl ?_ | refine zcm ?_ | refine zcn ?_)
            first | refine zcp (by kernel_rfl) ?_ | refine zcq PP_mixed (by kernel_rfl) (by kernel_rfl) ?_
            repeat' (refine zap rfl ?_; first | refine zaa 0 rfl rfl rfl ?_ | refine zao rfl ?_ | refine zbh rfl rfl (by omega) ?_)
            all_goals refine zch ?_
            all_goals repeat (first | refine zck ?_ | refine zcl ?_ | refine zcm ?_ | refine zcn ?_)
            refine zcj rfl ?_
            repeat' (first | refine zcp (by kernel_rfl) ?_ | refine zcm ?_ | refine zcn ?_ | (refine zap rfl ?_; first | refine zan rfl ?_ | refine zan rfl ?_ | refine zau rfl rfl (by omega) ?_) | refine zch ?_)
            exact cut_end ⟨rfl, (i + 1, _, s), ⟨rfl, rfl, rfl, rfl, rfl, int_eq (by dsimp only; omega), trivial⟩, ⟨rfl, by dsimp only; rw [show N - (i + 1) = k by omega]; exact hG, hlt⟩, by dsimp only; omega⟩
    · have hx0 : x = 0 := by simpa using hx
      rw [if_pos hx0] at hG
      rw [hG.done]
      refine cut_exit rfl rfl ?_
      repeat' (first | refine zck ?_ | refine zcp (by kernel_rfl) ?_ | (refine zap rfl ?_; first | refine zan rfl ?_ | refine zan rfl ?_) | refine zch ?_)
      exact ret_tmp3 rfl ⟨rfl, rfl⟩
  · have hk : N - i = 0 := by omega
    rw [hk, Tr.leafK] at hG
    repeat (first | refine zck ?_ | refine zcl ?_ | refine zcm ?_ | refine zcn ?_)
    first | refine zcp (by kernel_rfl) ?_ | refine zcq PP_mixed (by kernel_rfl) (by kernel_rfl) ?_
    repeat' (refine zap rfl ?_; first | refine zan rfl ?_ | refine reg_callG [0] hG (getG w0 p _) rfl rfl rfl sub_nil (fun x s hG => ?_) | refine zbp rfl rfl ?_)
    all_goals refine zch ?_
    all_goals repeat (first | refine zck ?_ | refine zcl ?_ | refine zcm ?_ | refine zcn ?_)
    refine run_cond rfl (fun hx => ?_) (fun hx => ?_)
    · rw [if_neg hx] at hG
      repeat (first | refine zck ?_ | refine zcl ?_ | refine zcm ?_ | refine zcn ?_)
      first | refine zcp (by kernel_rfl) ?_ | refine zcq PP_mixed (by kernel_rfl) (by kernel_rfl) ?_
      repeat' (refine zap rfl ?_; first | refine zan rfl ?_ | refine zan rfl ?_ | refine zaa 1 rfl rfl rfl ?_ | refine reg_callG [0] hG (getG w0 p _) rfl rfl rfl sub_nil (fun v s hG => ?_) | refine zah [] (trNode w0 bt T hT _) rfl rfl rfl sub_nil rfl ?_ | refine zan rfl ?_)
      all_goals refine zch ?_
      all_goals repeat (first | refine zck ?_ | refine zcl ?_ | refine zcm ?_ | refine zcn ?_)
      rw [hG.done]
      generalize hb : T.nodeB v = b
      cases b with
      | false =>
        repeat' (first | refine zck ?_ | refine zcp (by kernel_rfl) ?_ | (refine zap rfl ?_; first | refine zak rfl ?_ | refine zan rfl ?_ | refine zan rfl ?_ | refine zbx rfl ?_ | refine zbu rfl ?_) | refine zch ?_ | refine zci rfl ?_)
        exact qret3 (fun _ _ h => h) rfl ⟨rfl, rfl⟩
      | true =>
        repeat' (first | refine zck ?_ | refine zcp (by kernel_rfl) ?_ | (refine zap rfl ?_; first | refine zaj rfl ?_ | refine zan rfl ?_ | refine zan rfl ?_ | refine zaa 1 rfl rfl rfl ?_ | refine zao rfl ?_ | refine zbm rfl rfl (by omega) ?_ | refine zbx rfl ?_ | refine zbv rfl ?_) | refine zch ?_ | refine zci rfl ?_)
        exact qret3 (fun _ _ h => h) rfl ⟨rfl, rfl⟩
    · have hx0 : x = 0 := by simpa using hx
      rw [if_pos hx0] at hG
      rw [hG.done]
      refine cut_exit rfl rfl ?_
      repeat' (first | refine zck ?_ | refine zcp (by kernel_rfl) ?_ | (refine zap rfl ?_; first | refine zan rfl ?_ | refine zan rfl ?_) | refine zch ?_)
      exact ret_tmp3 rfl ⟨rfl, rfl⟩
theorem trGet (w0 : World) (bt : Int) (p : Nat) (T : Tr) (hT : T.Ok) (hb : 0 ≤ bt ∧ bt ≤ 255) (n : Int) (hn : 100 ≤ n ∧ n ≤ 115) : FnG w0 [] 74 [trVN bt T, spP p, nmV (n - 3)] p (T.get n (hsN bt n)) encVB := by
  intro s hS; have hG := At.start hS; generalize Pg.run _ s = R at hG ⊢
  unfold Tr.get at hG
  refine fn_of_run en74 fn74 rfl rfl rfl ?_
  repeat (first | refine zck ?_ | refine zcl ?_ | refine zcm ?_ | refine zcn ?_)
  first | refine zcp (by kernel_rfl) ?_ | refine zcq PP_mixed (by kernel_rfl) (by kernel_rfl) ?_
  repeat' (refine zap rfl ?_; first | refine zan rfl ?_ | refine zaq (cs := [_]) rfl (fun nb => ?_) | refine zaq (cs := [_, _, _, _, _]) rfl (fun nb => ?_))
  all_goals refine zch ?_
  all_goals repeat (first | refine zck ?_ | refine zcl ?_ | refine zcm ?_ | refine zcn ?_)
  refine run_share [1] rfl ?_
  refine run_share [1] rfl ?_
  repeat (first | refine zck ?_ | refine zcl ?_ | refine zcm ?_ | refine zcn ?_)
  first | refine zcp (by kernel_rfl) ?_ | refine zcq PP_mixed (by kernel_rfl) (by kernel_rfl) ?_
  repeat' (refine zap rfl ?_; first | refine zan rfl ?_ | refine zan rfl ?_ | refine zaa 0 rfl rfl rfl ?_ | refine zaa 1 rfl rfl rfl ?_ | refine reg_invokeE [] (nmNumN w0 bt n hn) rfl rfl rfl sub_nil rfl ?_ | refine zao rfl ?_ | refine zan rfl ?_)
  all_goals refine zch ?_
  all_goals repeat (first | refine zck ?_ | refine zcl ?_ | refine zcm ?_ | refine zcn ?_)
  repeat (first | refine zck ?_ | refine zcl ?_ | refine zcm ?_ | refine zcn ?_)
  first | refine zcp (by kernel_rfl) ?_ | refine zcq PP_mixed (by kernel_rfl) (by kernel_rfl) ?_
  repeat' (refine zap rfl ?_; first | refine zan rfl ?_ | refine zbx rfl ?_)
  all_goals refine zch ?_
  all_goals repeat (first | refine zck ?_ | refine zcl ?_ | refine zcm ?_ | refine zcn ?_)
  refine zcj rfl ?_
  repeat (first | refine zck ?_ | refine zcl ?_ | refine zcm ?_ | refine zcn ?_)
  first | refine zcp (by kernel_rfl) ?_ | refine zcq PP_mixed (by kernel_rfl) (by kernel_rfl) ?_
  repeat' (refine zap rfl ?_; first | refine zan rfl ?_ | refine zan rfl ?_ | refine zaa 0 rfl rfl rfl ?_ | refine zaa 1 rfl rfl rfl ?_ | refine reg_invokeE [] (nmHash w0 bt n hb hn) rfl rfl rfl sub_nil rfl ?_ | (refine reg_callX [0] hG (T.all_down hT _) (trDown w0 bt p T hT _ (hsN_in bt n).1) rfl rfl rfl sub_nil ?_; rintro w s v Γ1 hw ⟨a1, c1, a2, c2, rfl, rfl⟩ hG) | refine zao rfl ?_ | refine zan rfl ?_ | refine zae 3 rfl rfl rfl rfl rfl rfl rfl ?_ | refine zar (fun nb => ?_))
  all_goals refine zch ?_
  all_goals repeat (first | refine zck ?_ | refine zcl ?_ | refine zcm ?_ | refine zcn ?_)
  obtain ⟨w, ok⟩ := w
  dsimp only at hG hw
  cases ok with
  | false =>
    simp only [Bool.false_eq_true, if_false] at hG
    rw [hG.done]
    repeat' (first | refine zck ?_ | refine zcp (by kernel_rfl) ?_ | (refine zap rfl ?_; first | refine zan rfl ?_ | refine zan rfl ?_ | refine zbx rfl ?_) | refine zch ?_ | refine zci rfl ?_)
    refine run_take [0] rfl ?_
    exact ret_tmp2 rfl ⟨rfl, rfl⟩
  | true =>
    simp only [if_true] at hG
    repeat (first | refine zck ?_ | refine zcl ?_ | refine zcm ?_ | refine zcn ?_)
    first | refine zcp (by kernel_rfl) ?_ | refine zcq PP_mixed (by kernel_rfl) (by kernel_rfl) ?_
    repeat' (refine zap rfl ?_; first | refine zan rfl ?_ | refine zbx rfl ?_)
    all_goals refine zch ?_
    all_goals repeat (first | refine zck ?_ | refine zcl ?_ | refine zcm ?_ | refine zcn ?_)
    refine zcj rfl ?_
    repeat (first | refine zck ?_ | refine zcl ?_ | refine zcm ?_ | refine zcn ?_)
    first | refine zcp (by kernel_rfl) ?_ | refine zcq PP_mixed (by kernel_rfl) (by kernel_rfl) ?_
    repeat' (refine zap rfl ?_; first | refine zan rfl ?_ | refine zan rfl ?_ | refine zaa 1 rfl rfl rfl ?_ | refine zab 3 rfl rfl rfl ?_ | (refine reg_callGP [0] hG (T.all_leaf w hw n) (trLeaf w0 bt p T hT w hw a1 c1 a2 c2 n) rfl rfl rfl sub_nil (fun l s hl hG => ?_)) | refine zan rfl ?_)
    all_goals refine zch ?_
    all_goals repeat (first | refine zck ?_ | refine zcl ?_ | refine zcm ?_ | refine zcn ?_)
    obtain ⟨⟨c, a⟩, ok⟩ := l
    obtain ⟨hk1, hk2, hk3, hk4⟩ := id hl
    obtain ⟨hl1, hl2, hl3, hl4⟩ := hl
    dsimp only at hG hl1 hl2 hl3 hl4
    cases ok with
    | false =>
      simp only [Bool.false_eq_true, if_false] at hG
      rw [hG.done]
      repeat' (first | refine zck ?_ | refine zcp (by kernel_rfl) ?_ | (refine zap rfl ?_; first | refine zak rfl ?_ | refine zan rfl ?_ | refine zan rfl ?_ | refine zbx rfl ?_ | refine zbu rfl ?_) | refine zch ?_ | refine zci rfl ?_)
      refine run_take [0] rfl ?_
      exact ret_tmp2 rfl ⟨rfl, rfl⟩
    | true =>
      simp only [if_true] at hG
      by_cases ha : a = 0
      · rw [if_pos ha] at hG
        rw [hG.done]
        repeat' (first | refine zck ?_ | refine zcp (by kernel_rfl) ?_ | (refine zap rfl ?_; first | refine zaj rfl ?_ | refine zan rfl ?_ | refine zan rfl ?_ | refine zbc rfl rfl (by omega) ?_ | refine zbx rfl ?_ | refine zbv rfl ?_) | refine zch ?_ | refine zci rfl ?_)
        refine run_take [0] rfl ?_
        exact ret_tmp2 rfl ⟨rfl, rfl⟩
      · rw [if_neg ha] at hG
        repeat' (first | refine zck ?_ | refine zcp (by kernel_rfl) ?_ | refine zcm ?_ | (refine zap rfl ?_; first | refine zaj rfl ?_ | refine zan rfl ?_ | refine zan rfl ?_ | refine reg_callG [0] hG (getG w0 p _) rfl rfl rfl sub_nil (fun u s hG => ?_) | refine zbd rfl rfl (by omega) ?_ | refine zau rfl rfl (by omega) ?_ | refine zbx rfl ?_ | refine zbv rfl ?_) | refine zch ?_ | refine zcj rfl ?_)
        rw [hG.done]
        refine run_take [0] rfl ?_
        exact ret_tmp2 rfl ⟨rfl, rfl⟩
end Go.Proofs.YtloekplbhknepaaGreat.NM

namespace Go.Proofs.YtloekplbhknepaaGreat.NM
open Go.Vc Sim
set_option maxHeartbeats 4000000
theorem trTake (w0 : World) (bt : Int) (p lb : Nat) (T : Tr) (hT : T.Ok) (l : List Int) (hl : l.length ≤ 100) : FnX w0 [] 100 [trVN bt T, spP p, .slice (some ⟨lb, 0, none⟩) l.length l.length] p (T.take l) [pt lb (.cells (List.toArray (intsV l)) 2 (0, 0))] (fun r v Γ => v = encI2 r ∧ Γ = []) := by
  intro s hS; have hG := At.start hS; generalize Pg.run _ s = R at hG ⊢
  unfold Tr.take at hG
  refine fn_of_run en100 fn100 rfl rfl rfl ?_
  refine run_share [1] rfl ?_
  repeat (first | refine zck ?_ | refine zcl ?_ | refine zcm ?_ | refine zcn ?_)
  first | refine zcp (by kernel_rfl) ?_ | refine zcq PP_mixed (by kernel_rfl) (by kernel_rfl) ?_
  repeat' (refine zap rfl ?_; first | refine zan rfl ?_ | refine zaq (cs := [_, _, _, _, _]) rfl (fun nb => ?_))
  all_goals refine zch ?_
  all_goals repeat (first | refine zck ?_ | refine zcl ?_ | refine zcm ?_ | refine zcn ?_)
  refine run_share [1] rfl ?_
  have hR := RdSl.ints (w0 := w0) (sh := (nb, .cells (List.toArray [kN bt, .int .i64 T.pool.root, .int .i64 T.pool.frm, .int .i64 T.pool.nodes, .int .i64 T.root]) 44 (0, 0)) :: [(lb, .cells (List.toArray (intsV l ++ [])) 2 (0, 0))]) (l := l) (cap := l.length) (spare := []) (.tail _ (.head _)) (Nat.le_refl _)
  rw [List.append_nil] at hR
  repeat (first | refine zck ?_ | refine zcl ?_ | refine zcm ?_ | refine zcn ?_)
  first | refine zcp (by kernel_rfl) ?_ | refine zcq PP_mixed (by kernel_rfl) (by kernel_rfl) ?_
  repeat' (refine zap rfl ?_; first | refine zan rfl ?_ | refine zan rfl ?_ | refine zaa 0 rfl rfl rfl ?_ | refine reg_callG [0] hG (takeG w0 p T.pool hT.pool) rfl rfl rfl sub_nil (fun t s hG => ?_) | refine zao rfl ?_ | refine zan rfl ?_)
  all_goals refine zch ?_
  all_goals repeat (first | refine zck ?_ | refine zcl ?_ | refine zcm ?_ | refine zcn ?_)
  repeat (first | refine zck ?_ | refine zcl ?_ | refine zcm ?_ | refine zcn ?_)
  first | refine zcp (by kernel_rfl) ?_ | refine zcq PP_mixed (by kernel_rfl) (by kernel_rfl) ?_
  repeat' (refine zap rfl ?_; first | refine zan rfl ?_ | refine zbp rfl rfl ?_)
  all_goals refine zch ?_
  all_goals repeat (first | refine zck ?_ | refine zcl ?_ | refine zcm ?_ | refine zcn ?_)
  refine run_cond rfl (fun hE => ?_) (fun hE => ?_)
  · rw [if_pos hE] at hG
    rw [hG.done]
    repeat' (first | refine zck ?_ | refine zcp (by kernel_rfl) ?_ | (refine zap rfl ?_; first | refine zan rfl ?_ | refine zan rfl ?_) | refine zch ?_)
    exact ret_tmp2 rfl ⟨[], rfl, rfl, rfl⟩
  · rw [if_neg hE] at hG
    repeat (first | refine zck ?_ | refine zcl ?_ | refine zcm ?_ | refine zcn ?_)
    first | refine zcp (by kernel_rfl) ?_ | refine zcq PP_mixed (by kernel_rfl) (by kernel_rfl) ?_
    repeat' (refine zap rfl ?_; first | refine zan rfl ?_ | refine zce rfl ?_)
    all_goals refine zch ?_
    all_goals repeat (first | refine zck ?_ | refine zcl ?_ | refine zcm ?_ | refine zcn ?_)
    refine run_loop (S := Nat × Sp) (fun st => [(1, spP p), (3, .pointer (some ⟨nb, 0, none⟩)), (8, .int .i64 t.1), (22, .slice (some ⟨lb, 0, none⟩) l.length l.length), (23, .int .i64 (l.length : Int)), (24, .int .i64 (st.1 : Int))])
      (fun st Γ => Γ = [SpaceA p st.2] ∧ At R (Tr.putsL t.1 (st.1 : Int) (l.drop st.1) >>= fun _ => T.add 7 1 >>= fun _ => Pg.ret (t.1, 0)) st.2 ∧ st.1 ≤ l.length)
      (fun st => l.length - st.1) (0, s) ⟨rfl, rfl, rfl, rfl, rfl, rfl, trivial⟩ ⟨rfl, hG, Nat.zero_le _⟩ ?_
    rintro ⟨i, s⟩ Γ junk ⟨rfl, hG, hi⟩
    dsimp only at hG hi ⊢
    by_cases hlt : i < l.length
    · obtain ⟨v, hv⟩ : ∃ v, l[i]? = some v := ⟨l[i], List.getElem?_eq_getElem hlt⟩
      rw [show l.drop i = v :: l.drop (i + 1) by rw [List.drop_eq_getElem_cons hlt]; congr 1; exact (Option.some.inj ((List.getElem?_eq_getElem hlt).symm.trans hv))] at hG
      unfold Tr.putsL at hG
      rw [Pg.bind_assoc] at hG
      obtain ⟨bb, off, cc, TT, fr, e2, hm, hr⟩ := hR.at hv
      cases e2
      repeat' (first | refine zck ?_ | refine zcp (by kernel_rfl) ?_ | refine zcm ?_ | refine zcl ?_ | refine zcn ?_ | (refine zap rfl ?_; first | refine zad rfl hm (hr _ (by omega)) ?_ | refine reg_add (t := 28) rfl rfl ?_ | refine zan rfl ?_ | refine zan rfl ?_ | refine reg_callG [0] hG (putG w0 p _ _) rfl rfl rfl sub_nil (fun u s hG => ?_) | refine zbg rfl rfl (by omega) ?_ | refine zau rfl rfl (by omega) ?_ | refine zas rfl rfl (by omega) ?_) | refine zch ?_ | refine zci rfl ?_)
      exact cut_end ⟨rfl, (i + 1, s), ⟨rfl, rfl, rfl, rfl, rfl, int_eq (by dsimp only; omega), trivial⟩, ⟨rfl, by dsimp only; rw [show ((i + 1 : Nat) : Int) = (i : Int) + 1 by omega]; exact hG, hlt⟩, by dsimp only; omega⟩
    · have hi2 : i = l.length := by omega
      rw [hi2, List.drop_length] at hG
      unfold Tr.putsL at hG
      rw [Pg.pure_bind] at hG
      repeat' (first | refine zck ?_ | refine zcp (by kernel_rfl) ?_ | (refine zap rfl ?_; first | refine zbh rfl rfl (by omega) ?_) | refine zch ?_ | refine zcj rfl ?_)
      refine cut_exit rfl rfl ?_
      repeat' (first | refine zck ?_ | refine zcp (by kernel_rfl) ?_ | (refine zap rfl ?_; first | refine zan rfl ?_ | refine zan rfl ?_ | refine zaa 0 rfl rfl rfl ?_ | refine reg_callG [0] hG (trAdd w0 bt p T hT _ _ (by decide)) rfl rfl rfl sub_nil (fun u s hG => ?_)) | refine zch ?_)
      rw [hG.done]
      exact ret_tmp2 rfl ⟨[], rfl, rfl, rfl⟩
theorem trGive (w0 : World) (bt : Int) (p : Nat) (T : Tr) (hT : T.Ok) (a : Int) : FnG w0 [] 95 [trVN bt T, spP p, .int .i64 a] p (T.give a) (.int .i64) := by
  intro s hS; have hG := At.start hS; generalize Pg.run _ s = R at hG ⊢
  unfold Tr.give at hG
  refine fn_of_run en95 fn95 rfl rfl rfl ?_
  repeat (first | refine zck ?_ | refine zcl ?_ | refine zcm ?_ | refine zcn ?_)
  first | refine zcp (by kernel_rfl) ?_ | refine zcq PP_mixed (by kernel_rfl) (by kernel_rfl) ?_
  repeat' (refine zap rfl ?_; first | refine zan rfl ?_ | refine zaq (cs := [_, _, _, _, _]) rfl (fun nb => ?_))
  all_goals refine zch ?_
  all_goals repeat (first | refine zck ?_ | refine zcl ?_ | refine zcm ?_ | refine zcn ?_)
  refine run_share [1] rfl ?_
  repeat (first | refine zck ?_ | refine zcl ?_ | refine zcm ?_ | refine zcn ?_)
  first | refine zcp (by kernel_rfl) ?_ | refine zcq PP_mixed (by kernel_rfl) (by kernel_rfl) ?_
  repeat' (refine zap rfl ?_; first | refine zan rfl ?_ | refine zan rfl ?_ | refine zaa 0 rfl rfl rfl ?_ | refine reg_callG [0] hG (giveG w0 p T.pool hT.pool a) rfl rfl rfl sub_nil (fun t s hG => ?_) | refine zao rfl ?_)
  all_goals refine zch ?_
  all_goals repeat (first | refine zck ?_ | refine zcl ?_ | refine zcm ?_ | refine zcn ?_)
  repeat (first | refine zck ?_ | refine zcl ?_ | refine zcm ?_ | refine zcn ?_)
  first | refine zcp (by kernel_rfl) ?_ | refine zcq PP_mixed (by kernel_rfl) (by kernel_rfl) ?_
  repeat' (refine zap rfl ?_; first | refine zan rfl ?_ | refine zbp rfl rfl ?_)
  all_goals refine zch ?_
  all_goals repeat (first | refine zck ?_ | refine zcl ?_ | refine zcm ?_ | refine zcn ?_)
  refine run_cond rfl (fun hE => ?_) (fun hE => ?_)
  · rw [if_pos hE] at hG
    rw [hG.done]
    repeat' (first | refine zck ?_ | refine zcp (by kernel_rfl) ?_ | (refine zap rfl ?_; first | refine zan rfl ?_ | refine zan rfl ?_) | refine zch ?_)
    exact ret_tmp1 rfl ⟨rfl, rfl⟩
  · rw [if_neg hE] at hG
    repeat' (first | refine zck ?_ | refine zcp (by kernel_rfl) ?_ | refine zcm ?_ | (refine zap rfl ?_; first | refine zan rfl ?_ | refine zan rfl ?_ | refine zaa 0 rfl rfl rfl ?_ | refine reg_callG [0] hG (trAdd w0 bt p T hT _ _ (by decide)) rfl rfl rfl sub_nil (fun u s hG => ?_)) | refine zch ?_)
    rw [hG.done]
    exact ret_tmp1 rfl ⟨rfl, rfl⟩
theorem trAlone (w0 : World) (bt : Int) (p : Nat) (T : Tr) (hT : T.Ok) (b : Int) (hb : 0 ≤ b ∧ b ≤ 5000) : FnG w0 [] 97 [trVN bt T, spP p, .int .i64 b] p (T.alone b) encVB := by
  intro s hS; have hG := At.start hS; generalize Pg.run _ s = R at hG ⊢
  unfold Tr.alone at hG
  refine fn_of_run en97 fn97 rfl rfl rfl ?_
  repeat (first | refine zck ?_ | refine zcl ?_ | refine zcm ?_ | refine zcn ?_)
  first | refine zcp (by kernel_rfl) ?_ | refine zcq PP_mixed (by kernel_rfl) (by kernel_rfl) ?_
  repeat' (refine zap rfl ?_; first | refine zan rfl ?_ | refine zaq (cs := [_, _, _, _, _]) rfl (fun nb => ?_))
  all_goals refine zch ?_
  all_goals repeat (first | refine zck ?_ | refine zcl ?_ | refine zcm ?_ | refine zcn ?_)
  refine run_share [1] rfl ?_
  repeat (first | refine zck ?_ | refine zcl ?_ | refine zcm ?_ | refine zcn ?_)
  first | refine zcp (by kernel_rfl) ?_ | refine zcq PP_mixed (by kernel_rfl) (by kernel_rfl) ?_
  repeat' (refine zap rfl ?_; first | refine zan rfl ?_)
  all_goals refine zch ?_
  all_goals repeat (first | refine zck ?_ | refine zcl ?_ | refine zcm ?_ | refine zcn ?_)
  repeat (first | refine zck ?_ | refine zcl ?_ | refine zcm ?_ | refine zcn ?_)
  first | refine zcp (by kernel_rfl) ?_ | refine zcq PP_mixed (by kernel_rfl) (by kernel_rfl) ?_
  repeat' (refine zap rfl ?_; first | refine zan rfl ?_)
  all_goals refine zch ?_
  all_goals repeat (first | refine zck ?_ | refine zcl ?_ | refine zcm ?_ | refine zcn ?_)
  refine run_loop (S := Nat × Int × Sp) (fun st => [(1, spP p), (2, .int .i64 b), (3, .pointer (some ⟨nb, 0, none⟩)), (8, .int .i64 st.2.1), (13, .int .i64 (st.1 : Int))])
    (fun st Γ => Γ = [SpaceA p st.2.2] ∧ At R (T.aloneK b (8 - st.1) (st.1 : Int) st.2.1) st.2.2 ∧ st.1 ≤ 8)
    (fun st => 8 - st.1) (0, 0, s) ⟨rfl, rfl, rfl, rfl, rfl, trivial⟩ ⟨rfl, hG, Nat.zero_le 8⟩ ?_
  rintro ⟨i, one, s⟩ Γ junk ⟨rfl, hG, hi⟩
  dsimp only at hG hi ⊢
  by_cases hlt : i < 8
  · obtain ⟨k, hk⟩ : ∃ k, 8 - i = k + 1 := ⟨7 - i, by omega⟩
    rw [hk, Tr.aloneK] at hG
    repeat (first | refine zck ?_ | refine zcl ?_ | refine zcm ?_ | refine zcn ?_)
    first | refine zcp (by kernel_rfl) ?_ | refine zcq PP_mixed (by kernel_rfl) (by kernel_rfl) ?_
    repeat' (refine zap rfl ?_; first | refine zbg rfl rfl (by omega) ?_)
    all_goals refine zch ?_
    all_goals repeat (first | refine zck ?_ | refine zcl ?_ | refine zcm ?_ | refine zcn ?_)
    refine zci rfl ?_
    repeat (first | refine zck ?_ | refine zcl ?_ | refine zcm ?_ | refine zcn ?_)
    first | refine zcp (by kernel_rfl) ?_ | refine zcq PP_mixed (by kernel_rfl) (by kernel_rfl) ?_
    repeat' (refine zap rfl ?_; first | refine zan rfl ?_ | refine zan rfl ?_)
    all_goals refine zch ?_
    all_goals repeat (first | refine zck ?_ | refine zcl ?_ | refine zcm ?_ | refine zcn ?_)
    repeat (first | refine zck ?_ | refine zcl ?_ | refine zcm ?_ | refine zcn ?_)
    first | refine zcp (by kernel_rfl) ?_ | refine zcq PP_mixed (by kernel_rfl) (by kernel_rfl) ?_
    repeat' (refine zap rfl ?_; first | refine zan rfl ?_ | refine zan rfl ?_ | refine reg_callG [0] hG (getG w0 p _) rfl rfl rfl sub_nil (fun x s hG => ?_) | refine zau rfl rfl (by omega) ?_)
    all_goals refine zch ?_
    all_goals repeat (first | refine zck ?_ | refine zcl ?_ | refine zcm ?_ | refine zcn ?_)
    by_cases h1 : x < 0
    · rw [if_pos h1] at hG
      rw [hG.done]
      repeat' (first | refine zck ?_ | refine zcp (by kernel_rfl) ?_ | (refine zap rfl ?_; first | refine zak rfl ?_ | refine zal rfl ?_ | refine zan rfl ?_ | refine zan rfl ?_ | refine zbg rfl rfl (by omega) ?_ | refine zbu rfl ?_) | refine zch ?_ | refine zci rfl ?_)
      exact qret2 (fun _ _ h => h) rfl ⟨rfl, rfl⟩
    · rw [if_neg h1] at hG
      by_cases h2 : x = 0
      · rw [if_pos h2] at hG
        repeat' (first | refine zck ?_ | refine zcp (by kernel_rfl) ?_ | refine zcm ?_ | refine zcn ?_ | (refine zap rfl ?_; first | refine zaj rfl ?_ | refine zak rfl ?_ | refine zan rfl ?_ | refine zbf rfl rfl (by omega) ?_ | refine zbh rfl rfl (by omega) ?_ | refine zau rfl rfl (by omega) ?_ | refine zbv rfl ?_) | refine zch ?_ | refine zcj rfl ?_)
        exact cut_end ⟨rfl, (i + 1, one, s), ⟨rfl, rfl, rfl, rfl, int_eq (by dsimp only; omega), trivial⟩, ⟨rfl, by dsimp only; rw [show 8 - (i + 1) = k by omega, show ((i + 1 : Nat) : Int) = (i : Int) + 1 by omega]; exact hG, hlt⟩, by dsimp only; omega⟩
      · rw [if_neg h2] at hG
        by_cases h3 : one = 0
        · rw [if_pos h3] at hG
          repeat' (first | refine zck ?_ | refine zcp (by kernel_rfl) ?_ | refine zcm ?_ | refine zcn ?_ | (refine zap rfl ?_; first | refine zaj rfl ?_ | refine zan rfl ?_ | refine zan rfl ?_ | refine zbe rfl rfl (by omega) ?_ | refine zbf rfl rfl (by omega) ?_ | refine zbh rfl rfl (by omega) ?_ | refine zau rfl rfl (by omega) ?_ | refine zbu rfl ?_ | refine zbv rfl ?_) | refine zch ?_ | refine zci rfl ?_ | refine zcj rfl ?_)
          exact cut_end ⟨rfl, (i + 1, x, s), ⟨rfl, rfl, rfl, rfl, int_eq (by dsimp only; omega), trivial⟩, ⟨rfl, by dsimp only; rw [show 8 - (i + 1) = k by omega, show ((i + 1 : Nat) : Int) = (i : Int) + 1 by omega]; exact hG, hlt⟩, by dsimp only; omega⟩
        · rw [if_neg h3] at hG
          rw [hG.done]
          repeat' (first | refine zck ?_ | refine zcp (by kernel_rfl) ?_ | (refine zap rfl ?_; first | refine zaj rfl ?_ | refine zan rfl ?_ | refine zan rfl ?_ | refine zbe rfl rfl (by omega) ?_ | refine zbh rfl rfl (by omega) ?_ | refine zbu rfl ?_ | refine zbv rfl ?_) | refine zch ?_ | refine zci rfl ?_)
          exact qret2 (fun _ _ h => h) rfl ⟨rfl, rfl⟩
  · have hk : 8 - i = 0 := by omega
    rw [hk, Tr.aloneK] at hG
    repeat (first | refine zck ?_ | refine zcl ?_ | refine zcm ?_ | refine zcn ?_)
    first | refine zcp (by kernel_rfl) ?_ | refine zcq PP_mixed (by kernel_rfl) (by kernel_rfl) ?_
    repeat' (refine zap rfl ?_; first | refine zbh rfl rfl (by omega) ?_)
    all_goals refine zch ?_
    all_goals repeat (first | refine zck ?_ | refine zcl ?_ | refine zcm ?_ | refine zcn ?_)
    refine zcj rfl ?_
    refine cut_exit rfl rfl ?_
    repeat (first | refine zck ?_ | refine zcl ?_ | refine zcm ?_ | refine zcn ?_)
    first | refine zcp (by kernel_rfl) ?_ | refine zcq PP_mixed (by kernel_rfl) (by kernel_rfl) ?_
    repeat' (refine zap rfl ?_; first | refine zan rfl ?_ | refine zbo rfl rfl ?_)
    all_goals refine zch ?_
    all_goals repeat (first | refine zck ?_ | refine zcl ?_ | refine zcm ?_ | refine zcn ?_)
    refine run_cond rfl (fun h0 => ?_) (fun h0 => ?_)
    · rw [if_pos h0] at hG
      rw [hG.done]
      repeat' (first | refine zck ?_ | refine zcp (by kernel_rfl) ?_ | (refine zap rfl ?_; first | refine zan rfl ?_) | refine zch ?_)
      exact ret_tmp2 rfl ⟨rfl, rfl⟩
    · rw [if_neg h0] at hG
      repeat (first | refine zck ?_ | refine zcl ?_ | refine zcm ?_ | refine zcn ?_)
      first | refine zcp (by kernel_rfl) ?_ | refine zcq PP_mixed (by kernel_rfl) (by kernel_rfl) ?_
      repeat' (refine zap rfl ?_; first | refine zan rfl ?_ | refine zan rfl ?_ | refine zaa 0 rfl rfl rfl ?_ | refine zah [] (trNode w0 bt T hT _) rfl rfl rfl sub_nil rfl ?_ | refine zan rfl ?_)
      all_goals refine zch ?_
      all_goals repeat (first | refine zck ?_ | refine zcl ?_ | refine zcm ?_ | refine zcn ?_)
      have hnb := Tr.nodeN_bd one
      generalize hbb : T.nodeB one = bb at hG ⊢
      cases bb with
      | false =>
        simp only [Bool.false_eq_true, if_false] at hG
        rw [hG.done]
        repeat' (first | refine zcp (by kernel_rfl) ?_ | (refine zap rfl ?_; first | refine zak rfl ?_ | refine zan rfl ?_ | refine zan rfl ?_ | refine zbv rfl ?_) | refine zch ?_)
        exact ret_tmp2 rfl ⟨rfl, rfl⟩
      | true =>
        simp only [if_true] at hG
        repeat' (first | refine zcp (by kernel_rfl) ?_ | (refine zap rfl ?_; first | refine zaj rfl ?_ | refine zan rfl ?_ | refine zan rfl ?_ | refine reg_callG [0] hG (getG w0 p _) rfl rfl rfl sub_nil (fun x s hG => ?_) | refine zau rfl rfl (by omega) ?_ | refine zbo rfl rfl ?_ | refine zbu rfl ?_) | refine zch ?_)
        rw [hG.done]
        exact ret_tmp2 rfl ⟨rfl, rfl⟩
end Go.Proofs.YtloekplbhknepaaGreat.NM

