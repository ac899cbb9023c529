import Derived.Sort.LotD5
import Derived.Test.YtloekplbhknepaaGreatPart3
import Derived.Test.YtloekplbhknepaaGreatKit
import Derived.Test.YtloekplbhknepaaGreatPart1
import Derived.Test.YtloekplbhknepaaGreatKitA
/- Lemmas and walks for the claims of this seat (own work): So8 So9 Sq10 Sq11 Sq12 Sq13 Sq14 Tw8 Tw9 Fa0 Fa1 Fa2 So10 So11 So12 So13 Nw0 Nw2 Fa3 Fa4 Cp0 Ws0 Wr0 Wq0. -/
namespace Go.Proofs.YtloekplbhknepaaGreat
open Go.Vc
open Go.Sort (ltInt order2 median medianAdjacent choosePivot Hint)
def hintI : Hint → Int
  | .unknown => 0
  | .increasing => 1
  | .decreasing => 2
def piv (D : Array Int) (a b : Nat) : Nat × Nat :=
  if b - a ≥ 8 then
    if b - a ≥ 50 then
      median ltInt D (medianAdjacent ltInt D (a + (b - a) / 4 * 1) 0).1 (medianAdjacent ltInt D (a + (b - a) / 4 * 2) (medianAdjacent ltInt D (a + (b - a) / 4 * 1) 0).2).1
        (medianAdjacent ltInt D (a + (b - a) / 4 * 3) (medianAdjacent ltInt D (a + (b - a) / 4 * 2) (medianAdjacent ltInt D (a + (b - a) / 4 * 1) 0).2).2).1
        (medianAdjacent ltInt D (a + (b - a) / 4 * 3) (medianAdjacent ltInt D (a + (b - a) / 4 * 2) (medianAdjacent ltInt D (a + (b - a) / 4 * 1) 0).2).2).2
    else median ltInt D (a + (b - a) / 4 * 1) (a + (b - a) / 4 * 2) (a + (b - a) / 4 * 3) 0
  else (a + (b - a) / 4 * 2, 0)
theorem choose_eq (D : Array Int) (a b : Nat) : choosePivot ltInt D a b = ((piv D a b).1, if (piv D a b).2 = 0 then .increasing else if (piv D a b).2 = 12 then .decreasing else .unknown) := rfl
set_option maxHeartbeats 4000000
theorem choose_spec (w0 : World) (bb N cap : Nat) (D : Array Int) (a b : Nat) (hN : N ≤ 1152921504606846975) (hab : a < b) (hb : b ≤ N) :
    Vc.Fn PP w0 [] 126 [.slice (some ⟨bb, 0, none⟩) N cap, .int .i64 a, .int .i64 b] [Dat 28 bb N cap D]
      fun v Γ => v = .tuple #[.int .i64 ((choosePivot ltInt D a b).1 : Nat), .int .i64 (hintI (choosePivot ltInt D a b).2)] ∧ ∃ sw s, Γ = [Dat 28 bb N cap D, Swp sw s] := by
  refine fn_of_run en126 fn126 rfl rfl rfl ?_
  obtain ⟨r, hr⟩ : ∃ r, r = piv D a b := ⟨_, rfl⟩
  repeat (first | refine zck ?_ | refine zcl ?_ | refine zcm ?_ | refine zcn ?_)
  first | refine zcp (by kernel_rfl) ?_ | refine run_drawR PP_mixed (by kernel_rfl) (by kernel_rfl) ?_
  repeat' (refine zap rfl ?_; first | refine zan rfl ?_)
  all_goals refine zch ?_
  all_goals repeat (first | refine zck ?_ | refine zcl ?_ | refine zcm ?_ | refine zcn ?_)
  repeat (first | refine zck ?_ | refine zcl ?_ | refine zcm ?_ | refine zcn ?_)
  first | refine zcp (by kernel_rfl) ?_ | refine run_drawR PP_mixed (by kernel_rfl) (by kernel_rfl) ?_
  repeat' (refine zap rfl ?_; first | refine zan rfl ?_ | refine zan rfl ?_ | refine zav rfl rfl (by omega) ?_)
  all_goals refine zch ?_
  all_goals repeat (first | refine zck ?_ | refine zcl ?_ | refine zcm ?_ | refine zcn ?_)
  repeat (first | refine zck ?_ | refine zcl ?_ | refine zcm ?_ | refine zcn ?_)
  first | refine zcp (by kernel_rfl) ?_ | refine run_drawR PP_mixed (by kernel_rfl) (by kernel_rfl) ?_
  repeat' (refine zap rfl ?_; first | refine zar (fun nb => ?_))
  all_goals refine zch ?_
  all_goals repeat (first | refine zck ?_ | refine zcl ?_ | refine zcm ?_ | refine zcn ?_)
  repeat (first | refine zck ?_ | refine zcl ?_ | refine zcm ?_ | refine zcn ?_)
  first | refine zcp (by kernel_rfl) ?_ | refine run_drawR PP_mixed (by kernel_rfl) (by kernel_rfl) ?_
  repeat' (refine zap rfl ?_; first | refine zan rfl ?_ | refine zan rfl ?_ | refine zau rfl rfl (by omega) ?_ | refine zaw rfl rfl (by omega) ?_ | refine zax rfl rfl (by omega) ?_)
  all_goals refine zch ?_
  all_goals repeat (first | refine zck ?_ | refine zcl ?_ | refine zcm ?_ | refine zcn ?_)
  repeat (first | refine zck ?_ | refine zcl ?_ | refine zcm ?_ | refine zcn ?_)
  first | refine zcp (by kernel_rfl) ?_ | refine run_drawR PP_mixed (by kernel_rfl) (by kernel_rfl) ?_
  repeat' (refine zap rfl ?_; first | refine zan rfl ?_ | refine zan rfl ?_ | refine zau rfl rfl (by omega) ?_ | refine zaw rfl rfl (by omega) ?_ | refine zax rfl rfl (by omega) ?_)
  all_goals refine zch ?_
  all_goals repeat (first | refine zck ?_ | refine zcl ?_ | refine zcm ?_ | refine zcn ?_)
  repeat (first | refine zck ?_ | refine zcl ?_ | refine zcm ?_ | refine zcn ?_)
  first | refine zcp (by kernel_rfl) ?_ | refine run_drawR PP_mixed (by kernel_rfl) (by kernel_rfl) ?_
  repeat' (refine zap rfl ?_; first | refine zan rfl ?_ | refine zan rfl ?_ | refine zau rfl rfl (by omega) ?_ | refine zaw rfl rfl (by omega) ?_ | refine zax rfl rfl (by omega) ?_)
  all_goals refine zch ?_
  all_goals repeat (first | refine zck ?_ | refine zcl ?_ | refine zcm ?_ | refine zcn ?_)
  repeat (first | refine zck ?_ | refine zcl ?_ | refine zcm ?_ | refine zcn ?_)
  first | refine zcp (by kernel_rfl) ?_ | refine run_drawR PP_mixed (by kernel_rfl) (by kernel_rfl) ?_
  repeat' (refine zap rfl ?_; first | refine zan rfl ?_ | refine zbt rfl rfl ?_)
  all_goals refine zch ?_
  all_goals repeat (first | refine zck ?_ | refine zcl ?_ | refine zcm ?_ | refine zcn ?_)
  refine run_bind_eq (l' := [(9, .pointer (some ⟨nb, 0, none⟩)), (11, .int .i64 (r.1 : Nat))]) (Γ' := [Dat 28 bb N cap D, Swp nb r.2]) ?_ (fun junk => ?_)
  · refine run_cond rfl (fun hc => ?_) (fun hc => ?_)
    · by_cases h50 : 50 ≤ b - a
      · have m1 := median_lt (D := D) (a := a + (b - a) / 4 * 1 - 1) (b := a + (b - a) / 4 * 1) (c := a + (b - a) / 4 * 1 + 1) (s := 0) (N := N) (by omega) (by omega) (by omega)
        obtain ⟨r1, hr1⟩ : ∃ r1, r1 = medianAdjacent ltInt D (a + (b - a) / 4 * 1) 0 := ⟨_, rfl⟩
        have m1 : r1.1 < N ∧ r1.2 ≤ 0 + 3 := by rw [hr1]; exact m1
        have m2 := median_lt (D := D) (a := a + (b - a) / 4 * 2 - 1) (b := a + (b - a) / 4 * 2) (c := a + (b - a) / 4 * 2 + 1) (s := r1.2) (N := N) (by omega) (by omega) (by omega)
        obtain ⟨r2, hr2⟩ : ∃ r2, r2 = medianAdjacent ltInt D (a + (b - a) / 4 * 2) r1.2 := ⟨_, rfl⟩
        have m2 : r2.1 < N ∧ r2.2 ≤ r1.2 + 3 := by rw [hr2]; exact m2
        have m3 := median_lt (D := D) (a := a + (b - a) / 4 * 3 - 1) (b := a + (b - a) / 4 * 3) (c := a + (b - a) / 4 * 3 + 1) (s := r2.2) (N := N) (by omega) (by omega) (by omega)
        obtain ⟨r3, hr3⟩ : ∃ r3, r3 = medianAdjacent ltInt D (a + (b - a) / 4 * 3) r2.2 := ⟨_, rfl⟩
        have m3 : r3.1 < N ∧ r3.2 ≤ r2.2 + 3 := by rw [hr3]; exact m3
        have hrr : r = median ltInt D r1.1 r2.1 r3.1 r3.2 := by rw [hr, piv, if_pos (by omega), if_pos h50, ← hr1, ← hr2, ← hr3]
        have A1 := adj_spec w0 bb N cap D nb 0 ((a : Int) + ((b : Int) - a) / 4 * 1) (a + (b - a) / 4 * 1) hN (by omega) (by omega) (by omega) (by omega)
        have A2 := adj_spec w0 bb N cap D nb r1.2 ((a : Int) + ((b : Int) - a) / 4 * 2) (a + (b - a) / 4 * 2) hN (by omega) (by omega) (by omega) (by omega)
        have A3 := adj_spec w0 bb N cap D nb r2.2 ((a : Int) + ((b : Int) - a) / 4 * 3) (a + (b - a) / 4 * 3) hN (by omega) (by omega) (by omega) (by omega)
        rw [← hr1] at A1; rw [← hr2] at A2; rw [← hr3] at A3
        have A4 := median_spec w0 bb N cap D nb r3.2 _ _ _ r1.1 r2.1 r3.1 hN (by omega) (by omega) (by omega) (by omega) rfl rfl rfl
        rw [← hrr] at A4
        repeat' (first | refine zck ?_ | refine zcp (by kernel_rfl) ?_ | (refine zap rfl ?_; first | refine zan rfl ?_ | refine zan rfl ?_ | refine zah [0, 0] A1 rfl rfl rfl sub_nil rfl ?_ | refine zah [0, 0] A2 rfl rfl rfl sub_nil rfl ?_ | refine zah [0, 0] A3 rfl rfl rfl sub_nil rfl ?_ | refine zah [0, 0] A4 rfl rfl rfl sub_nil rfl ?_ | refine zbm rfl rfl (by omega) ?_) | refine zch ?_ | refine zci rfl ?_)
        refine cut_end ⟨rfl, ⟨rfl, rfl, trivial⟩, rfl⟩
      · have A4 := median_spec w0 bb N cap D nb 0 ((a : Int) + ((b : Int) - a) / 4 * 1) ((a : Int) + ((b : Int) - a) / 4 * 2) ((a : Int) + ((b : Int) - a) / 4 * 3) (a + (b - a) / 4 * 1) (a + (b - a) / 4 * 2) (a + (b - a) / 4 * 3) hN (by omega) (by omega) (by omega) (by omega) (by omega) (by omega) (by omega)
        have hrr : r = median ltInt D (a + (b - a) / 4 * 1) (a + (b - a) / 4 * 2) (a + (b - a) / 4 * 3) 0 := by rw [hr, piv, if_pos (by omega), if_neg h50]
        rw [← hrr] at A4
        repeat' (first | refine zck ?_ | refine zcp (by kernel_rfl) ?_ | refine zcm ?_ | (refine zap rfl ?_; first | refine zan rfl ?_ | refine zan rfl ?_ | refine zah [0, 0] A4 rfl rfl rfl sub_nil rfl ?_ | refine zbn rfl rfl (by omega) ?_) | refine zch ?_ | refine zcj rfl ?_)
        refine cut_end ⟨rfl, ⟨rfl, rfl, trivial⟩, rfl⟩
    · have hrr : r = (a + (b - a) / 4 * 2, 0) := by rw [hr, piv, if_neg (by omega)]
      subst hrr
      repeat' (first | refine zcm ?_ | (refine zap rfl ?_; first | refine zan rfl ?_) | refine zch ?_)
      refine cut_end ⟨rfl, ⟨rfl, int_eq (by dsimp only; omega), trivial⟩, rfl⟩
  · repeat' (first | refine zck ?_ | refine zcp (by kernel_rfl) ?_ | refine zcl ?_ | (refine zap rfl ?_; first | refine zan rfl ?_ | refine zab 1 rfl rfl rfl ?_ | refine zbo rfl rfl ?_) | refine zch ?_)
    rw [choose_eq, ← hr]
    refine run_cond rfl (fun h0 => ?_) (fun h0 => ?_)
    · repeat' (first | refine zck ?_ | refine zcp (by kernel_rfl) ?_ | (refine zap rfl ?_; first | refine zan rfl ?_ | refine zan rfl ?_) | refine zch ?_)
      refine ret_tmp2 rfl ⟨?_, nb, r.2, rfl⟩
      rw [if_pos (by omega)]; rfl
    · repeat' (first | refine zck ?_ | refine zcp (by kernel_rfl) ?_ | (refine zap rfl ?_; first | refine zan rfl ?_ | refine zbo rfl rfl ?_) | refine zch ?_)
      refine run_cond rfl (fun h1 => ?_) (fun h1 => ?_)
      · repeat' (first | refine zck ?_ | refine zcp (by kernel_rfl) ?_ | (refine zap rfl ?_; first | refine zan rfl ?_ | refine zan rfl ?_) | refine zch ?_)
        refine ret_tmp2 rfl ⟨?_, nb, r.2, rfl⟩
        rw [if_neg (by omega), if_pos (by omega)]; rfl
      · repeat' (first | refine zck ?_ | refine zcp (by kernel_rfl) ?_ | (refine zap rfl ?_; first | refine zan rfl ?_ | refine zan rfl ?_) | refine zch ?_)
        refine ret_tmp2 rfl ⟨?_, nb, r.2, rfl⟩
        rw [if_neg (by omega), if_neg (by omega)]; rfl
end Go.Proofs.YtloekplbhknepaaGreat

namespace Go.Proofs.YtloekplbhknepaaGreat
open Go.Vc
open Go.Sort (bitsLen xorNextN)
theorem bl_big (n : Nat) (h : 256 ≤ n) : bitsLen n = bitsLen (n / 256) + 8 := by
  have h1 : ∀ k, bitsLen n ≤ k + 8 ↔ bitsLen (n / 256) ≤ k := fun k => by
    rw [Go.Sort.bitsLen_le_iff, Go.Sort.bitsLen_le_iff, Nat.pow_add]; omega
  have h2 : ¬ bitsLen n ≤ 8 := by rw [Go.Sort.bitsLen_le_iff]; omega
  have h3 := (h1 (bitsLen n - 8)).1 (by omega)
  have h4 := (h1 (bitsLen (n / 256))).2 (Nat.le_refl _)
  omega
def tabOk (s : ByteArray) : Bool := (List.range 256).all fun i => match s[i]? with | some c => c.toNat == bitsLen i | none => false
section
variable {P : Program} {w0 : World} {n : Nat} {sh : Shared} {Q : Exit → Env → List Deferred → List Asn → Prop} {k : List Item} {ρ : Env} {df : List Deferred} {Γ : List Asn}
variable {ops : Array Oper} {l : List (Fl × Nat × Oper)} {b : Fl} {i d : Nat} {ty : TypeId} {pos : String} {aft : Array Edge}
theorem reg_len8 {x y : Operand} {t : TypeId} {kd : IntKind} {s : ByteArray} (X : Nat) {z : Int} [hT : TUnd P t .string] (hx : ev ρ x = .string s) (hs : tabOk s = true) (hy : ev ρ y = .int kd z) (hz : z = X) (hX : X < 256)
    (h : Reg P w0 n sh Q ops l k (ρ.set d (.int .u8 (bitsLen X : Nat))) df Γ) : Reg P w0 n sh Q ops ((b, i, ⟨some d, .index t x y, ty, pos, aft, none⟩) :: l) k ρ df Γ := by
  have h1 := List.all_eq_true.1 hs X (List.mem_range.2 hX)
  subst hz
  split at h1
  · rename_i c hc
    have h2 : c.toNat = bitsLen X := by simpa using h1
    exact reg_index_str hx hy (by omega) (c := c) (by simpa using hc) (by rw [h2]; exact h)
  · cases h1
end
theorem len64_spec (w0 : World) (x : Nat) (hx : x < 65536) : FnE PP w0 [] 119 [.int .u64 x] [] (.int .i64 (bitsLen x : Nat)) [] := by
  refine fn_of_run en119 fn119 rfl rfl rfl ?_
  by_cases h : 256 ≤ x
  · have hb := (Go.Sort.bitsLen_le_iff (x / 256) 8).2 (by omega)
    repeat' (first | refine zck ?_ | refine zcp (by kernel_rfl) ?_ | refine zcm ?_ | (refine zap rfl ?_; first | refine reg_shr_u64 8 256 rfl rfl rfl (by decide) rfl ?_ | refine reg_convN ((x / 256 : Nat) : Int) rfl (by simp only [IntKind.wrap, IntKind.bits, IntKind.signed]; simp; omega) ?_ | refine reg_len8 (x / 256) rfl (by kernel_rfl) rfl rfl (by omega) ?_ | refine zan rfl ?_ | refine zan rfl ?_ | refine zbm rfl rfl (by omega) ?_ | refine zbn rfl rfl (by omega) ?_ | refine zau rfl rfl (by omega) ?_ | refine zbz rfl (by omega) ?_) | refine zch ?_ | refine zci rfl ?_ | refine zcj rfl ?_)
    refine ret_tmp1 rfl ⟨int_eq ?_, rfl⟩
    rw [bl_big x h]; omega
  · have hb := (Go.Sort.bitsLen_le_iff x 8).2 (by omega)
    repeat' (first | refine zck ?_ | refine zcp (by kernel_rfl) ?_ | refine zcm ?_ | (refine zap rfl ?_; first | refine reg_convN (x : Int) rfl (by simp only [IntKind.wrap, IntKind.bits, IntKind.signed]; simp; omega) ?_ | refine reg_len8 x rfl (by kernel_rfl) rfl rfl (by omega) ?_ | refine zan rfl ?_ | refine zan rfl ?_ | refine zbn rfl rfl (by omega) ?_ | refine zau rfl rfl (by omega) ?_ | refine zbz rfl (by omega) ?_) | refine zch ?_ | refine zcj rfl ?_)
    refine ret_tmp1 rfl ⟨int_eq ?_, rfl⟩
    omega
theorem blen_spec (w0 : World) (x : Nat) (hx : x < 65536) : FnE PP w0 [] 90 [.int .u64 x] [] (.int .i64 (bitsLen x : Nat)) [] := by
  refine fn_of_run en90 fn90 rfl rfl rfl ?_
  repeat' (first | refine zck ?_ | refine zcp (by kernel_rfl) ?_ | refine zcm ?_ | (refine zap rfl ?_; first | refine zan rfl ?_ | refine zan rfl ?_ | refine zah [] (len64_spec w0 x hx) rfl rfl rfl sub_nil rfl ?_) | refine zch ?_ | refine zcj rfl ?_)
  exact ret_tmp1 rfl ⟨rfl, rfl⟩
theorem npow_spec (w0 : World) (x : Nat) (hx : x < 65536) : FnE PP w0 [] 133 [.int .i64 x] [] (.int .u64 ((1 <<< bitsLen x : Nat) : Int)) [] := by
  refine fn_of_run en133 fn133 rfl rfl rfl ?_
  have hb := (Go.Sort.bitsLen_le_iff x 16).2 (by omega)
  have hp : 2 ^ bitsLen x ≤ 2 ^ 16 := Nat.pow_le_pow_right (by decide) hb
  repeat' (first | refine zck ?_ | refine zcp (by kernel_rfl) ?_ | (refine zap rfl ?_; first | refine reg_convN (x : Int) rfl (by rw [IntKind.wrap_u64]; omega) ?_ | refine reg_shl_u64 (X := 1) (bitsLen x) _ rfl rfl rfl (by omega) rfl ?_ | refine zan rfl ?_ | refine zan rfl ?_ | refine zah [] (blen_spec w0 x hx) rfl rfl rfl sub_nil rfl ?_) | refine zch ?_)
  refine ret_tmp1 rfl ⟨int_eq ?_, rfl⟩
  rw [Nat.one_shiftLeft]; omega
theorem next_spec (w0 : World) (rb X : Nat) (hX : X < 18446744073709551616) : FnE PP w0 [] 134 [.pointer (some ⟨rb, 0, none⟩)] [pt rb (.cells (List.toArray [.int .u64 (X : Int)]) 194 (0, 0))]
    (.int .u64 (xorNextN X : Nat)) [pt rb (.cells (List.toArray [.int .u64 (xorNextN X : Nat)]) 194 (0, 0))] := by
  refine fn_of_run en134 fn134 rfl rfl rfl ?_
  obtain ⟨A, hA⟩ : ∃ A : Nat, A = X ^^^ (X * 8192 % 18446744073709551616) := ⟨_, rfl⟩
  obtain ⟨B, hB⟩ : ∃ B : Nat, B = A ^^^ (A / 128) := ⟨_, rfl⟩
  have lA : A < 18446744073709551616 := by rw [hA]; exact Nat.xor_lt_two_pow (n := 64) (by omega) (by omega)
  have lB : B < 18446744073709551616 := by rw [hB]; exact Nat.xor_lt_two_pow (n := 64) (by omega) (by omega)
  repeat (first | refine zck ?_ | refine zcl ?_ | refine zcm ?_ | refine zcn ?_)
  first | refine zcp (by kernel_rfl) ?_ | refine run_drawR PP_mixed (by kernel_rfl) (by kernel_rfl) ?_
  repeat' (refine zap rfl ?_; first | refine zan rfl ?_)
  all_goals refine zch ?_
  all_goals repeat (first | refine zck ?_ | refine zcl ?_ | refine zcm ?_ | refine zcn ?_)
  repeat (first | refine zck ?_ | refine zcl ?_ | refine zcm ?_ | refine zcn ?_)
  first | refine zcp (by kernel_rfl) ?_ | refine run_drawR PP_mixed (by kernel_rfl) (by kernel_rfl) ?_
  repeat' (refine zap rfl ?_; first | refine reg_shl_u64 13 8192 rfl rfl rfl (by decide) rfl ?_ | refine reg_xor_u64 rfl rfl (by omega) (by omega) ?_ | refine zan rfl ?_ | refine zab 0 rfl rfl rfl ?_ | refine zae 0 rfl rfl rfl rfl rfl rfl rfl ?_ | refine zan rfl ?_)
  all_goals refine zch ?_
  all_goals repeat (first | refine zck ?_ | refine zcl ?_ | refine zcm ?_ | refine zcn ?_)
  rw [← hA]
  repeat (first | refine zck ?_ | refine zcl ?_ | refine zcm ?_ | refine zcn ?_)
  first | refine zcp (by kernel_rfl) ?_ | refine run_drawR PP_mixed (by kernel_rfl) (by kernel_rfl) ?_
  repeat' (refine zap rfl ?_; first | refine reg_shr_u64 7 128 rfl rfl rfl (by decide) rfl ?_ | refine reg_xor_u64 rfl rfl (by omega) (by omega) ?_ | refine zan rfl ?_ | refine zab 0 rfl rfl rfl ?_ | refine zae 0 rfl rfl rfl rfl rfl rfl rfl ?_ | refine zan rfl ?_)
  all_goals refine zch ?_
  all_goals repeat (first | refine zck ?_ | refine zcl ?_ | refine zcm ?_ | refine zcn ?_)
  rw [← hB]
  repeat (first | refine zck ?_ | refine zcl ?_ | refine zcm ?_ | refine zcn ?_)
  first | refine zcp (by kernel_rfl) ?_ | refine run_drawR PP_mixed (by kernel_rfl) (by kernel_rfl) ?_
  repeat' (refine zap rfl ?_; first | refine reg_shl_u64 17 131072 rfl rfl rfl (by decide) rfl ?_ | refine reg_xor_u64 rfl rfl (by omega) (by omega) ?_ | refine zan rfl ?_ | refine zab 0 rfl rfl rfl ?_ | refine zae 0 rfl rfl rfl rfl rfl rfl rfl ?_ | refine zan rfl ?_)
  all_goals refine zch ?_
  all_goals repeat (first | refine zck ?_ | refine zcl ?_ | refine zcm ?_ | refine zcn ?_)
  repeat' (first | refine zcp (by kernel_rfl) ?_ | (refine zap rfl ?_; first | refine zan rfl ?_ | refine zan rfl ?_ | refine zab 0 rfl rfl rfl ?_ | refine zan rfl ?_) | refine zch ?_)
  have e : xorNextN X = B ^^^ (B * 131072 % 18446744073709551616) := by unfold xorNextN; simp only []; rw [← hA, ← hB]
  rw [e]
  exact ret_tmp1 rfl ⟨rfl, rfl⟩
end Go.Proofs.YtloekplbhknepaaGreat

namespace Go.Proofs.YtloekplbhknepaaGreat.SF
open Go.Vc
open Go.Sort (swp bitsLen xorNextN xorNext breakStep breakPatterns)
section
variable {P : Program} {w0 : World} {n : Nat} {sh : Shared} {Q : Exit → Env → List Deferred → List Asn → Prop} {k : List Item} {ρ : Env} {df : List Deferred} {Γ : List Asn}
variable {ops : Array Oper} {l : List (Fl × Nat × Oper)} {b : Fl} {i d : Nat} {ty : TypeId} {pos : String} {aft : Array Edge}
theorem reg_sub_u64 {x y : Operand} {t yt : TypeId} {X : Nat} (Y : Nat) {z : Int} (hx : ev ρ x = .int .u64 (X : Int)) (hy : ev ρ y = .int .u64 z) (hz : z = Y) (hb : Y ≤ X) (hX : X < 18446744073709551616)
    (h : Reg P w0 n sh Q ops l k (ρ.set d (.int .u64 ((X - Y : Nat) : Int))) df Γ) : Reg P w0 n sh Q ops ((b, i, ⟨some d, .binOp .sub t x y yt, ty, pos, aft, none⟩) :: l) k ρ df Γ :=
  reg_sub hx hy (by rw [IntKind.wrap_u64, hz, show ((X : Int) - (Y : Int)) % 18446744073709551616 = ((X - Y : Nat) : Int) by omega]; exact h)
end
def brk (a len m idx : Nat) (D : Array (Int × Int)) : Nat → UInt64 × Array (Int × Int)
  | 0 => (UInt64.ofNat len, D)
  | k + 1 => breakStep a len m (brk a len m idx D k) (idx + k)
theorem brk_eq {a b : Nat} {D : Array (Int × Int)} (h : 8 ≤ b - a) : breakPatterns D a b = (brk a (b - a) (1 <<< bitsLen (b - a)) (a + ((b - a) / 4) * 2 - 1) D 3).2 := by
  unfold breakPatterns
  simp only [ge_iff_le, h, if_true]
  rfl
theorem brk_step {a len m idx k : Nat} {D : Array (Int × Int)} {r : UInt64} {d : Array (Int × Int)} {o : Nat} (hk : brk a len m idx D k = (r, d)) (ho : o = if xorNextN r.toNat &&& (m - 1) ≥ len then (xorNextN r.toNat &&& (m - 1)) - len else xorNextN r.toNat &&& (m - 1)) :
    brk a len m idx D (k + 1) = (xorNext r, swp d (idx + k) (a + o)) := by
  rw [brk, hk, breakStep, ho]
  simp only [Go.Sort.xorNext_toNat]
set_option maxHeartbeats 4000000
theorem break_spec (w0 : World) (F : FuncId) (hcF : CmpF F) (bb N cap : Nat) (D : Array (Int × Int)) (a b : Nat) (hN : N < 65536) (hab : a + 8 ≤ b) (hb : b ≤ N) :
    Vc.Fn PP w0 [] 112 [.slice (some ⟨bb, 0, none⟩) N cap, .int .i64 a, .int .i64 b, .func (.func F) #[] #[]] [Dat2 134 bb N cap D]
      fun v Γ => v = .tuple #[] ∧ ∃ rb x, Γ = [Dat2 134 bb N cap (breakPatterns D a b), pt rb (.cells (List.toArray [.int .u64 (x : Int)]) 194 (0, 0))] := by
  refine fn_of_run en112 fn112 rfl rfl rfl ?_
  have hlen : (UInt64.ofNat (b - a)).toNat = b - a := by rw [UInt64.toNat_ofNat']; exact Nat.mod_eq_of_lt (by omega)
  obtain ⟨m, hm⟩ : ∃ m, m = 1 <<< bitsLen (b - a) := ⟨_, rfl⟩
  have hm1 : m ≤ 2 * (b - a) := by rw [hm, Nat.one_shiftLeft]; exact Go.Sort.two_pow_bitsLen_le (by omega)
  have hm0 : 0 < m := by rw [hm, Nat.one_shiftLeft]; exact Nat.pow_pos (by decide)
  have hP := npow_spec w0 (b - a) (by omega)
  rw [← hm] at hP
  have hsub : ((b : Int) - (a : Int)) = ((b - a : Nat) : Int) := by omega
  repeat (first | refine zck ?_ | refine zcl ?_ | refine zcm ?_ | refine zcn ?_)
  first | refine zcp (by kernel_rfl) ?_ | refine zcq PP_mixed (by kernel_rfl) (by kernel_rfl) ?_
  repeat' (refine zap rfl ?_; first | refine zan rfl ?_ | refine zan rfl ?_ | refine zav rfl rfl (by omega) ?_)
  all_goals refine zch ?_
  all_goals repeat (first | refine zck ?_ | refine zcl ?_ | refine zcm ?_ | refine zcn ?_)
  repeat (first | refine zck ?_ | refine zcl ?_ | refine zcm ?_ | refine zcn ?_)
  first | refine zcp (by kernel_rfl) ?_ | refine zcq PP_mixed (by kernel_rfl) (by kernel_rfl) ?_
  repeat' (refine zap rfl ?_; first | refine zan rfl ?_ | refine zbm rfl rfl (by omega) ?_)
  all_goals refine zch ?_
  all_goals repeat (first | refine zck ?_ | refine zcl ?_ | refine zcm ?_ | refine zcn ?_)
  refine zci rfl ?_
  repeat refine zck ?_
  rw [hsub]
  repeat (first | refine zck ?_ | refine zcl ?_ | refine zcm ?_ | refine zcn ?_)
  first | refine zcp (by kernel_rfl) ?_ | refine zcq PP_mixed (by kernel_rfl) (by kernel_rfl) ?_
  repeat' (refine zap rfl ?_; first | refine reg_convN (((b - a : Nat) : Int)) rfl (by rw [IntKind.wrap_u64]; omega) ?_ | refine zan rfl ?_ | refine zae 1 rfl rfl rfl rfl rfl rfl rfl ?_ | refine zar (fun nb => ?_))
  all_goals refine zch ?_
  all_goals repeat (first | refine zck ?_ | refine zcl ?_ | refine zcm ?_ | refine zcn ?_)
  repeat (first | refine zck ?_ | refine zcl ?_ | refine zcm ?_ | refine zcn ?_)
  first | refine zcp (by kernel_rfl) ?_ | refine zcq PP_mixed (by kernel_rfl) (by kernel_rfl) ?_
  repeat' (refine zap rfl ?_; first | refine zan rfl ?_ | refine zan rfl ?_ | refine zah [] hP rfl rfl rfl sub_nil rfl ?_)
  all_goals refine zch ?_
  all_goals repeat (first | refine zck ?_ | refine zcl ?_ | refine zcm ?_ | refine zcn ?_)
  repeat (first | refine zck ?_ | refine zcl ?_ | refine zcm ?_ | refine zcn ?_)
  first | refine zcp (by kernel_rfl) ?_ | refine zcq PP_mixed (by kernel_rfl) (by kernel_rfl) ?_
  repeat' (refine zap rfl ?_; first | refine zan rfl ?_ | refine zan rfl ?_ | refine zau rfl rfl (by omega) ?_ | refine zav rfl rfl (by omega) ?_ | refine zaw rfl rfl (by omega) ?_ | refine zax rfl rfl (by omega) ?_)
  all_goals refine zch ?_
  all_goals repeat (refine zck ?_)
  refine zcl ?_
  refine run_loop (S := Nat × UInt64 × Array (Int × Int)) (fun s => [(0, .slice (some ⟨bb, 0, none⟩) N cap), (3, .func (.func F) #[] #[]), (1, .int .i64 a), (8, .int .i64 ((b - a : Nat) : Int)), (9, .pointer (some ⟨nb, 0, none⟩)), (10, .int .u64 (m : Int)), (11, .int .i64 ((a + ((b - a) / 4) * 2 - 1 + s.1 : Nat) : Int))])
    (fun s Γ => Γ = [Dat2 134 bb N cap s.2.2, pt nb (.cells (List.toArray [.int .u64 (s.2.1.toNat : Int)]) 194 (0, 0))] ∧ s.1 ≤ 3 ∧ brk a (b - a) m (a + ((b - a) / 4) * 2 - 1) D s.1 = s.2)
    (fun s => 3 - s.1) (0, UInt64.ofNat (b - a), D) ⟨rfl, rfl, rfl, rfl, rfl, rfl, int_eq (by first | rfl | omega | (dsimp only; omega)), trivial⟩ ⟨by rw [hlen]; rfl, by dsimp only; omega, rfl⟩ ?_
  rintro ⟨k, r, d⟩ Γ junk ⟨rfl, h1, h2⟩
  dsimp only at h1 h2 ⊢
  by_cases hk : k < 3
  · have hrl := Go.Sort.xorNextN_lt r.toNat r.toNat_lt
    have hN1 := next_spec w0 nb r.toNat r.toNat_lt
    obtain ⟨R, hR⟩ : ∃ R, R = xorNextN r.toNat := ⟨_, rfl⟩
    rw [← hR] at hN1 hrl
    obtain ⟨o, ho⟩ : ∃ o, o = R &&& (m - 1) := ⟨_, rfl⟩
    have hol : o ≤ m - 1 := by rw [ho]; exact Nat.and_le_right
    have hxr : (xorNext r).toNat = R := by rw [hR]; exact Go.Sort.xorNext_toNat r
    repeat (first | refine zck ?_ | refine zcl ?_ | refine zcm ?_ | refine zcn ?_)
    first | refine zcp (by kernel_rfl) ?_ | refine run_drawR PP_mixed (by kernel_rfl) (by kernel_rfl) ?_
    repeat' (refine zap rfl ?_; first | refine zan rfl ?_ | refine zbi rfl rfl (by omega) ?_ | refine zau rfl rfl (by omega) ?_ | refine zaw rfl rfl (by omega) ?_ | refine zax rfl rfl (by omega) ?_)
    all_goals refine zch ?_
    all_goals repeat (first | refine zck ?_ | refine zcl ?_ | refine zcm ?_ | refine zcn ?_)
    refine zci rfl ?_
    repeat (first | refine zcm ?_ | refine zcl ?_ | refine zck ?_)
    repeat (first | refine zck ?_ | refine zcl ?_ | refine zcm ?_ | refine zcn ?_)
    first | refine zcp (by kernel_rfl) ?_ | refine zcq PP_mixed (by kernel_rfl) (by kernel_rfl) ?_
    repeat' (refine zap rfl ?_; first | refine reg_sub_u64 1 rfl rfl rfl (by omega) (by omega) ?_ | refine reg_and_u64 rfl rfl (by omega) (by omega) ?_ | refine zan rfl ?_ | refine zan rfl ?_ | refine zah [1] hN1 rfl rfl rfl sub_nil rfl ?_ | refine zbz rfl (by omega) ?_)
    all_goals refine zch ?_
    all_goals repeat (first | refine zck ?_ | refine zcl ?_ | refine zcm ?_ | refine zcn ?_)
    rw [← ho]
    refine run_perm (List.Perm.swap _ _ _) ?_
    by_cases hq : b - a ≤ o
    · repeat' (first | refine zcp (by kernel_rfl) ?_ | refine run_drawR PP_mixed (by kernel_rfl) (by kernel_rfl) ?_ | refine zcn ?_ | (refine zap rfl ?_; first | refine reg_load_d2 0 rfl rfl (by omega) ?_ | refine reg_store_d2 0 rfl rfl rfl (by omega) rfl ?_ | refine zan rfl ?_ | refine zan rfl ?_ | refine zbm rfl rfl (by omega) ?_ | refine zau rfl rfl (by omega) ?_ | refine zav rfl rfl (by omega) ?_ | refine zas rfl rfl (by omega) ?_) | refine zch ?_ | refine zci rfl ?_)
      have e1 : ((a + (b - a) / 4 * 2 - 1 + k : Nat) : Int).toNat = a + (b - a) / 4 * 2 - 1 + k := by omega
      have e2 : ((a : Int) + ((o : Int) - ((b - a : Nat) : Int))).toNat = a + (o - (b - a)) := by omega
      refine cut_end ⟨rfl, (k + 1, xorNext r, swp d (a + (b - a) / 4 * 2 - 1 + k) (a + (o - (b - a)))), ⟨rfl, rfl, rfl, rfl, rfl, rfl, int_eq (by first | rfl | omega | (dsimp only; omega)), trivial⟩, ⟨?_, by dsimp only; omega, ?_⟩, by dsimp only; omega⟩
      · rw [hxr, e1, e2]; rfl
      · exact brk_step h2 (by rw [← hR, ← ho, if_pos hq])
    · repeat' (first | refine zcp (by kernel_rfl) ?_ | refine run_drawR PP_mixed (by kernel_rfl) (by kernel_rfl) ?_ | refine zcm ?_ | refine zcn ?_ | (refine zap rfl ?_; first | refine reg_load_d2 0 rfl rfl (by omega) ?_ | refine reg_store_d2 0 rfl rfl rfl (by omega) rfl ?_ | refine zan rfl ?_ | refine zan rfl ?_ | refine zbn rfl rfl (by omega) ?_ | refine zau rfl rfl (by omega) ?_ | refine zas rfl rfl (by omega) ?_) | refine zch ?_ | refine zcj rfl ?_)
      have e1 : ((a + (b - a) / 4 * 2 - 1 + k : Nat) : Int).toNat = a + (b - a) / 4 * 2 - 1 + k := by omega
      have e2 : ((a : Int) + (o : Int)).toNat = a + o := by omega
      refine cut_end ⟨rfl, (k + 1, xorNext r, swp d (a + (b - a) / 4 * 2 - 1 + k) (a + o)), ⟨rfl, rfl, rfl, rfl, rfl, rfl, int_eq (by first | rfl | omega | (dsimp only; omega)), trivial⟩, ⟨?_, by dsimp only; omega, ?_⟩, by dsimp only; omega⟩
      · rw [hxr, e1, e2]; rfl
      · exact brk_step h2 (by rw [← hR, ← ho, if_neg hq])
  · repeat' (first | refine zck ?_ | refine zcp (by kernel_rfl) ?_ | (refine zap rfl ?_; first | refine zan rfl ?_ | refine zbj rfl rfl (by omega) ?_ | refine zau rfl rfl (by omega) ?_ | refine zaw rfl rfl (by omega) ?_ | refine zax rfl rfl (by omega) ?_) | refine zch ?_ | refine zcj rfl ?_)
    refine cut_exit rfl rfl ?_
    repeat' (first | refine zck ?_ | (refine zap rfl ?_; first | refine zan rfl ?_) | refine zch ?_)
    have hk3 : k = 3 := by omega
    subst hk3
    refine end_tmp0 rfl ⟨rfl, nb, r.toNat, ?_⟩
    rw [brk_eq (by omega), ← hm, h2]
end Go.Proofs.YtloekplbhknepaaGreat.SF

namespace Go.Proofs.YtloekplbhknepaaGreat.SF
open Go.Vc
open Go.Sort (swp bitsLen Hint insertionSort heapSort breakPatterns choosePivot reverseRange partialInsertionSort partitionEqual partition pdq)
theorem fn_drop {P : Program} {w0 : World} {sh : Shared} {f : FuncId} {args : List Value} {Γ Γ1 : List Asn} {R : Value → List Asn → Prop} {v : Value} (h : Vc.Fn P w0 sh f args Γ R) (hR : ∀ v' Γ', R v' Γ' → v' = v ∧ ∃ Γr, Γ' = Γ1 ++ Γr) :
    FnE P w0 sh f args Γ v Γ1 :=
  ⟨h.enters, fun hF w hsh hst => (h.calls hF w hsh hst).mono (by
    rintro e w' ⟨v', Γ', he, hr, hst'⟩
    obtain ⟨rfl, Γr, rfl⟩ := hR _ _ hr
    exact ⟨_, Γ1, he, ⟨rfl, rfl⟩, hst'.left⟩)⟩
theorem choose_specE (w0 : World) (F : FuncId) (hcF : CmpF F) (bb N cap : Nat) (D : Array (Int × Int)) (a b : Nat) (hN : N ≤ 1152921504606846975) (hab : a < b) (hb : b ≤ N) :
    FnE PP w0 [] 113 [.slice (some ⟨bb, 0, none⟩) N cap, .int .i64 a, .int .i64 b, .func (.func F) #[] #[]] [Dat2 134 bb N cap D]
      (.tuple #[.int .i64 ((choosePivot ltP D a b).1 : Nat), .int .i64 (hintI (choosePivot ltP D a b).2)]) [Dat2 134 bb N cap D] :=
  fn_drop (choose_spec w0 F hcF bb N cap D a b hN hab hb) (by rintro v Γ ⟨h1, sw, s, h2⟩; exact ⟨h1, [Swp sw s], h2⟩)
theorem break_specE (w0 : World) (F : FuncId) (hcF : CmpF F) (bb N cap : Nat) (D : Array (Int × Int)) (a b : Nat) (hN : N < 65536) (hab : a + 8 ≤ b) (hb : b ≤ N) :
    FnE PP w0 [] 112 [.slice (some ⟨bb, 0, none⟩) N cap, .int .i64 a, .int .i64 b, .func (.func F) #[] #[]] [Dat2 134 bb N cap D]
      (.tuple #[]) [Dat2 134 bb N cap (breakPatterns D a b)] :=
  fn_drop (break_spec w0 F hcF bb N cap D a b hN hab hb) (by rintro v Γ ⟨h1, rb, x, h2⟩; exact ⟨h1, [_], h2⟩)
theorem hintI_two {h : Hint} : hintI h = 2 ↔ h = .decreasing := by cases h <;> simp [hintI]
theorem hintI_one {h : Hint} : hintI h = 1 ↔ h = .increasing := by cases h <;> simp [hintI]
theorem pdq_small {d : Array (Int × Int)} {a b limit : Nat} {wb wp : Bool} (h : b - a ≤ 12) : pdq ltP d a b limit wb wp = insertionSort ltP d a b := by
  rw [pdq, if_pos h]
theorem pdq_heap {d : Array (Int × Int)} {a b : Nat} {wb wp : Bool} (h : ¬ b - a ≤ 12) : pdq ltP d a b 0 wb wp = heapSort ltP d a b := by
  rw [pdq, if_neg h, if_pos rfl]
theorem pdq_unf {d d1 d2 : Array (Int × Int)} {a b limit lim pv : Nat} {wb wp : Bool} {c : Nat × Hint} {hint : Hint} {pi : Array (Int × Int) × Bool} (h12 : ¬ b - a ≤ 12) (h0 : limit ≠ 0)
    (hd1 : d1 = if !wb then breakPatterns d a b else d) (hlim : lim = if !wb then limit - 1 else limit) (hc : c = choosePivot ltP d1 a b) (hd2 : d2 = if c.2 = .decreasing then reverseRange d1 a b else d1)
    (hpv : pv = if c.2 = .decreasing then (b - 1) - (c.1 - a) else c.1) (hh : hint = if c.2 = .decreasing then .increasing else c.2) (hpi : pi = if wb && wp && hint = .increasing then partialInsertionSort ltP d2 a b else (d2, false)) :
    pdq ltP d a b limit wb wp = if pi.2 then pi.1 else
      if a > 0 && !ltP pi.1[a - 1]! pi.1[pv]! then
        match partitionEqual ltP pi.1 a b pv with
        | (mid, d4) => if _h : a < mid ∧ mid ≤ b then pdq ltP d4 mid b lim wb wp else d4
      else
        match partition ltP pi.1 a b pv with
        | (mid, ap, d4) =>
          if _h : a ≤ mid ∧ mid < b then
            if mid - a < b - mid then pdq ltP (pdq ltP d4 a mid lim true true) (mid + 1) b lim (decide (mid - a ≥ (b - a) / 8)) ap
            else pdq ltP (pdq ltP d4 (mid + 1) b lim true true) a mid lim (decide (b - mid ≥ (b - a) / 8)) ap
          else d4 := by
  subst hd1; subst hlim; subst hc; subst hd2; subst hpv; subst hh; subst hpi
  rw [pdq]
  simp only [h12, h0, if_false]
theorem parteq_range {d : Array (Int × Int)} {a b pv : Nat} (h1 : a ≤ pv) (h2 : pv < b) (hb : b ≤ d.size) : a < (partitionEqual ltP d a b pv).1 ∧ (partitionEqual ltP d a b pv).1 ≤ b := by
  have hb0 : b ≤ (swp d a pv).size := by rw [Go.Sort.size_swp]; exact hb
  obtain ⟨r1, r2, _⟩ := Go.Sort.partEqLoop_spec ltP a b _ (a + 1) (b - 1) (swp d a pv) (Nat.le_refl _) (Nat.lt_succ_self a) (by omega) (by omega) hb0 (fun t h1 h2 => by omega) (fun t h1 h2 => by omega)
  exact ⟨r1, r2⟩
theorem part_range {d : Array (Int × Int)} {a b pv : Nat} (h1 : a ≤ pv) (h2 : pv < b) (hb : b ≤ d.size) : a ≤ (partition ltP d a b pv).1 ∧ (partition ltP d a b pv).1 < b := by
  obtain ⟨r1, r2, _⟩ := Go.Sort.partition_holds ltP swo_ltP d a b pv h1 h2 hb
  exact ⟨r1, r2⟩
end Go.Proofs.YtloekplbhknepaaGreat.SF

namespace Go.Proofs.YtloekplbhknepaaGreat.SF
open Go.Vc
open Go.Sort (swp bitsLen Hint insertionSort heapSort breakPatterns choosePivot reverseRange partialInsertionSort partitionEqual partition pdq)
def PdqAt (w0 : World) (F : FuncId) (bb N cap a b limit : Nat) (D : Array (Int × Int)) : Prop :=
  FnE PP w0 [] 89 [.slice (some ⟨bb, 0, none⟩) N cap, .int .i64 a, .int .i64 b, .int .i64 limit, .func (.func F) #[] #[]] [Dat2 134 bb N cap D] (.tuple #[]) [Dat2 134 bb N cap (pdq ltP D a b limit true true)]
set_option maxHeartbeats 4000000
theorem pdq_spec (w0 : World) (F : FuncId) (hcF : CmpF F) (bb N cap : Nat) (hN : N < 65536) : ∀ (m a b limit : Nat) (D : Array (Int × Int)), b - a ≤ m → a ≤ b → b ≤ N → limit ≤ 1000 → D.size = N → PdqAt w0 F bb N cap a b limit D := by
  intro m
  induction m with
  | zero =>
    intro a b limit D hm hab hb hl hD
    unfold PdqAt
    refine fn_of_run en89 fn89 rfl rfl rfl ?_
    repeat' (first | refine zck ?_ | refine zcp (by kernel_rfl) ?_ | refine zcl ?_ | (refine zap rfl ?_; first | refine zan rfl ?_) | refine zch ?_)
    refine run_loop1 ?_
    repeat' (first | refine zck ?_ | refine zcp (by kernel_rfl) ?_ | refine zcl ?_ | (refine zap rfl ?_; first | refine zan rfl ?_ | refine zan rfl ?_ | refine zah [0] (ins_spec w0 F hcF bb N cap D a b (by omega) hab hb hD) rfl rfl rfl sub_nil rfl ?_ | refine zbi rfl rfl (by omega) ?_ | refine zav rfl rfl (by omega) ?_) | refine zch ?_ | refine zci rfl ?_)
    rw [pdq_small (by omega)]
    exact qret0 (fun _ _ h => h) rfl ⟨rfl, rfl⟩
  | succ m ih =>
    intro a b limit D hm hab hb hl hD
    unfold PdqAt
    refine fn_of_run en89 fn89 rfl rfl rfl ?_
    repeat' (first | refine zck ?_ | refine zcp (by kernel_rfl) ?_ | refine zcl ?_ | (refine zap rfl ?_; first | refine zan rfl ?_) | refine zch ?_)
    refine run_loop (S := Nat × Nat × Nat × Bool × Bool × Array (Int × Int)) (fun s => [(0, .slice (some ⟨bb, 0, none⟩) N cap), (4, .func (.func F) #[] #[]), (1, .int .i64 s.1), (2, .int .i64 s.2.1), (3, .int .i64 s.2.2.1), (10, .bool s.2.2.2.1), (11, .bool s.2.2.2.2.1)])
      (fun s Γ => Γ = [Dat2 134 bb N cap s.2.2.2.2.2] ∧ s.2.1 - s.1 ≤ m + 1 ∧ s.1 ≤ s.2.1 ∧ s.2.1 ≤ N ∧ s.2.2.1 ≤ 1000 ∧ s.2.2.2.2.2.size = N ∧ pdq ltP s.2.2.2.2.2 s.1 s.2.1 s.2.2.1 s.2.2.2.1 s.2.2.2.2.1 = pdq ltP D a b limit true true)
      (fun s => s.2.1 - s.1) (a, b, limit, true, true, D) ⟨rfl, rfl, rfl, rfl, rfl, rfl, rfl, trivial⟩ ⟨rfl, hm, hab, hb, hl, hD, rfl⟩ ?_
    generalize pdq ltP D a b limit true true = RR
    clear hD hl hb hab hm D a b limit
    rintro ⟨a, b, limit, wb, wp, D⟩ Γ junk ⟨rfl, hm, hab, hb, hl, hD, hR⟩
    dsimp only at hm hab hb hl hD hR ⊢
    by_cases h12 : b - a ≤ 12
    · repeat' (first | refine zck ?_ | refine zcp (by kernel_rfl) ?_ | refine zcl ?_ | (refine zap rfl ?_; first | refine zan rfl ?_ | refine zan rfl ?_ | refine zah [0] (ins_spec w0 F hcF bb N cap D a b (by omega) hab hb hD) rfl rfl rfl sub_nil rfl ?_ | refine zbi rfl rfl (by omega) ?_ | refine zav rfl rfl (by omega) ?_) | refine zch ?_ | refine zci rfl ?_)
      rw [← hR, pdq_small h12]
      exact qret0 (fun _ _ h => h) rfl ⟨rfl, rfl⟩
    · by_cases h0 : limit = 0
      · subst h0
        repeat' (first | refine zck ?_ | refine zcp (by kernel_rfl) ?_ | refine zcm ?_ | refine zcl ?_ | (refine zap rfl ?_; first | refine zan rfl ?_ | refine zan rfl ?_ | refine zah [0] (heap_spec w0 F hcF bb N cap D a b (by omega) (by omega) hb hD) rfl rfl rfl sub_nil rfl ?_ | refine zbc rfl rfl (by omega) ?_ | refine zbj rfl rfl (by omega) ?_ | refine zav rfl rfl (by omega) ?_) | refine zch ?_ | refine zci rfl ?_ | refine zcj rfl ?_)
        rw [← hR, pdq_heap h12]
        exact qret0 (fun _ _ h => h) rfl ⟨rfl, rfl⟩
      · obtain ⟨d1, hd1⟩ : ∃ d1, d1 = if !wb then breakPatterns D a b else D := ⟨_, rfl⟩
        obtain ⟨lim, hlim⟩ : ∃ lim, lim = if !wb then limit - 1 else limit := ⟨_, rfl⟩
        have hlim1 : lim ≤ 1000 := by rw [hlim]; split <;> omega
        obtain ⟨c, hc⟩ : ∃ c, c = choosePivot ltP d1 a b := ⟨_, rfl⟩
        have hcr : a ≤ c.1 ∧ c.1 < b := by rw [hc]; exact Go.Sort.choosePivot_holds ltP d1 a b (by omega)
        obtain ⟨d2, hd2⟩ : ∃ d2, d2 = if c.2 = .decreasing then reverseRange d1 a b else d1 := ⟨_, rfl⟩
        obtain ⟨pv, hpv⟩ : ∃ pv, pv = if c.2 = .decreasing then (b - 1) - (c.1 - a) else c.1 := ⟨_, rfl⟩
        have hpr : a ≤ pv ∧ pv < b := by rw [hpv]; split <;> omega
        obtain ⟨hint, hh⟩ : ∃ hint, hint = if c.2 = .decreasing then .increasing else c.2 := ⟨_, rfl⟩
        obtain ⟨pi, hpi⟩ : ∃ pi, pi = if wb && wp && hint = .increasing then partialInsertionSort ltP d2 a b else (d2, false) := ⟨_, rfl⟩
        rw [pdq_unf h12 h0 hd1 hlim hc hd2 hpv hh hpi] at hR
        repeat (first | refine zck ?_ | refine zcl ?_ | refine zcm ?_ | refine zcn ?_)
        first | refine zcp (by kernel_rfl) ?_ | refine zcq PP_mixed (by kernel_rfl) (by kernel_rfl) ?_
        repeat' (refine zap rfl ?_; first | refine zan rfl ?_ | refine zan rfl ?_ | refine zav rfl rfl (by omega) ?_)
        all_goals refine zch ?_
        all_goals repeat (first | refine zck ?_ | refine zcl ?_ | refine zcm ?_ | refine zcn ?_)
        repeat (first | refine zck ?_ | refine zcl ?_ | refine zcm ?_ | refine zcn ?_)
        first | refine zcp (by kernel_rfl) ?_ | refine zcq PP_mixed (by kernel_rfl) (by kernel_rfl) ?_
        repeat' (refine zap rfl ?_; first | refine zan rfl ?_ | refine zbj rfl rfl (by omega) ?_)
        all_goals refine zch ?_
        all_goals repeat (first | refine zck ?_ | refine zcl ?_ | refine zcm ?_ | refine zcn ?_)
        refine zcj rfl ?_
        refine zcm ?_
        repeat (first | refine zck ?_ | refine zcl ?_ | refine zcm ?_ | refine zcn ?_)
        first | refine zcp (by kernel_rfl) ?_ | refine zcq PP_mixed (by kernel_rfl) (by kernel_rfl) ?_
        repeat' (refine zap rfl ?_; first | refine zan rfl ?_ | refine zbd rfl rfl (by omega) ?_)
        all_goals refine zch ?_
        all_goals repeat (first | refine zck ?_ | refine zcl ?_ | refine zcm ?_ | refine zcn ?_)
        refine zcj rfl ?_
        refine zcm ?_
        repeat (first | refine zck ?_ | refine zcl ?_ | refine zcm ?_ | refine zcn ?_)
        first | refine zcp (by kernel_rfl) ?_ | refine zcq PP_mixed (by kernel_rfl) (by kernel_rfl) ?_
        repeat' (refine zap rfl ?_; first | refine zan rfl ?_ | refine zbx rfl ?_)
        all_goals refine zch ?_
        all_goals repeat (first | refine zck ?_ | refine zcl ?_ | refine zcm ?_ | refine zcn ?_)
        refine run_bind_eq (l' := [(0, .slice (some ⟨bb, 0, none⟩) N cap), (4, .func (.func F) #[] #[]), (1, .int .i64 a), (2, .int .i64 b), (3, .int .i64 lim), (10, .bool wb), (11, .bool wp), (12, .int .i64 ((b : Int) - (a : Int)))]) (Γ' := [Dat2 134 bb N cap d1]) ?_ (fun junk => ?_)
        · cases wb with
          | false =>
            simp only [Bool.not_false, if_true] at hd1 hlim
            repeat' (first | refine zck ?_ | refine zcp (by kernel_rfl) ?_ | (refine zap rfl ?_; first | refine zan rfl ?_ | refine zan rfl ?_ | refine zah [0] (break_specE w0 F hcF bb N cap D a b hN (by omega) hb) rfl rfl rfl sub_nil rfl ?_ | refine zav rfl rfl (by omega) ?_) | refine zch ?_ | refine zci rfl ?_)
            refine cut_end ⟨rfl, ⟨rfl, rfl, rfl, rfl, int_eq (by omega), rfl, rfl, rfl, trivial⟩, by rw [hd1]; rfl⟩
          | true =>
            simp only [Bool.not_true, Bool.false_eq_true, if_false] at hd1 hlim
            repeat' (first | refine zcm ?_ | (refine zap rfl ?_; first | refine zaj rfl ?_ | refine zak rfl ?_ | refine zal rfl ?_ | refine zam rfl rfl (fun _ => ?_) (fun _ => ?_)) | refine zcj rfl ?_)
            refine cut_end ⟨rfl, ⟨rfl, rfl, rfl, rfl, int_eq (by omega), rfl, rfl, rfl, trivial⟩, by rw [hd1]⟩
        refine run_dat2 0 rfl (fun hs1 => ?_)
        have hC := choose_specE w0 F hcF bb N cap d1 a b (by omega) (by omega) hb
        rw [← hc] at hC
        repeat (first | refine zck ?_ | refine zcl ?_ | refine zcm ?_ | refine zcn ?_)
        first | refine zcp (by kernel_rfl) ?_ | refine zcq PP_mixed (by kernel_rfl) (by kernel_rfl) ?_
        repeat' (refine zap rfl ?_; first | refine zan rfl ?_ | refine zan rfl ?_ | refine zah [0] hC rfl rfl rfl sub_nil rfl ?_ | refine zan rfl ?_)
        all_goals refine zch ?_
        all_goals repeat (first | refine zck ?_ | refine zcl ?_ | refine zcm ?_ | refine zcn ?_)
        repeat (first | refine zck ?_ | refine zcl ?_ | refine zcm ?_ | refine zcn ?_)
        first | refine zcp (by kernel_rfl) ?_ | refine zcq PP_mixed (by kernel_rfl) (by kernel_rfl) ?_
        repeat' (refine zap rfl ?_; first | refine zan rfl ?_ | refine zbo rfl rfl ?_)
        all_goals refine zch ?_
        all_goals repeat (first | refine zck ?_ | refine zcl ?_ | refine zcm ?_ | refine zcn ?_)
        refine run_bind_eq (l' := [(0, .slice (some ⟨bb, 0, none⟩) N cap), (4, .func (.func F) #[] #[]), (1, .int .i64 a), (2, .int .i64 b), (3, .int .i64 lim), (10, .bool wb), (11, .bool wp), (12, .int .i64 ((b : Int) - (a : Int))), (13, .int .i64 pv), (14, .int .i64 (hintI hint))]) (Γ' := [Dat2 134 bb N cap d2]) ?_ (fun junk => ?_)
        · refine run_cond rfl (fun hE => ?_) (fun hE => ?_)
          · have hE := hintI_two.1 hE
            rw [if_pos hE] at hd2 hpv hh
            repeat' (first | refine zck ?_ | refine zcp (by kernel_rfl) ?_ | (refine zap rfl ?_; first | refine zan rfl ?_ | refine zan rfl ?_ | refine zah [0] (rev_spec w0 F hcF bb N cap d1 a b (by omega) (by omega) hb hs1) rfl rfl rfl sub_nil rfl ?_ | refine zav rfl rfl (by omega) ?_) | refine zch ?_)
            refine cut_end ⟨rfl, ⟨rfl, rfl, rfl, rfl, rfl, rfl, rfl, rfl, int_eq (by omega), by rw [hh]; rfl, trivial⟩, by rw [hd2]; rfl⟩
          · have hE : ¬ c.2 = .decreasing := fun h => hE (hintI_two.2 h)
            rw [if_neg hE] at hd2 hpv hh
            repeat' (first | refine zcm ?_ | (refine zap rfl ?_; first | refine zaj rfl ?_ | refine zak rfl ?_ | refine zal rfl ?_ | refine zam rfl rfl (fun _ => ?_) (fun _ => ?_)) | refine zch ?_)
            refine cut_end ⟨rfl, ⟨rfl, rfl, rfl, rfl, rfl, rfl, rfl, rfl, int_eq (by omega), by rw [hh]; rfl, trivial⟩, by rw [hd2]; rfl⟩
        refine run_dat2 0 rfl (fun hs2 => ?_)
        have hP := partial_spec w0 F hcF bb N cap d2 a b (by omega) (by omega) hb
        by_cases hp2 : pi.2 = true
        · rw [if_pos hp2] at hR
          have hcnd : (wb && wp && decide (hint = .increasing)) = true := by
            cases hq : (wb && wp && decide (hint = .increasing)) with
            | true => rfl
            | false => rw [hq] at hpi; simp at hpi; rw [hpi] at hp2; cases hp2
          rw [if_pos hcnd] at hpi
          rw [← hpi, hp2] at hP
          simp only [Bool.and_eq_true, decide_eq_true_eq] at hcnd
          obtain ⟨⟨rfl, rfl⟩, rfl⟩ := hcnd
          repeat' (first | refine zck ?_ | refine zcp (by kernel_rfl) ?_ | (refine zap rfl ?_; first | refine zaj rfl ?_ | refine zan rfl ?_ | refine zah [0] hP rfl rfl rfl sub_nil rfl ?_ | refine zbo rfl rfl ?_ | refine zbu rfl ?_) | refine zch ?_ | refine zci rfl ?_)
          rw [← hR]
          exact qret0 (fun _ _ h => h) rfl ⟨rfl, rfl⟩
        · have hp2 : pi.2 = false := by simpa using hp2
          rw [if_neg (by rw [hp2]; exact Bool.false_ne_true)] at hR
          repeat refine zck ?_
          refine run_bind_eq (l' := [(0, .slice (some ⟨bb, 0, none⟩) N cap), (4, .func (.func F) #[] #[]), (1, .int .i64 a), (2, .int .i64 b), (3, .int .i64 lim), (10, .bool wb), (11, .bool wp), (12, .int .i64 ((b : Int) - (a : Int))), (13, .int .i64 pv), (75, .bool (wb && wp && decide (hint = .increasing)))]) (Γ' := [Dat2 134 bb N cap d2]) ?_ (fun junk => ?_)
          · cases wb with
            | false =>
              repeat' (first | refine zcp (by kernel_rfl) ?_ | (refine zap rfl ?_; first | refine zak rfl ?_ | refine zan rfl ?_ | refine zbv rfl ?_) | refine zch ?_)
              refine cut_end ⟨rfl, ⟨rfl, rfl, rfl, rfl, rfl, rfl, rfl, rfl, rfl, rfl, trivial⟩, rfl⟩
            | true =>
              cases wp with
              | false =>
                repeat' (first | refine zcp (by kernel_rfl) ?_ | (refine zap rfl ?_; first | refine zaj rfl ?_ | refine zak rfl ?_ | refine zan rfl ?_ | refine zbu rfl ?_ | refine zbv rfl ?_) | refine zch ?_)
                refine cut_end ⟨rfl, ⟨rfl, rfl, rfl, rfl, rfl, rfl, rfl, rfl, rfl, rfl, trivial⟩, rfl⟩
              | true =>
                repeat' (first | refine zcp (by kernel_rfl) ?_ | (refine zap rfl ?_; first | refine zaj rfl ?_ | refine zan rfl ?_ | refine zbo rfl rfl ?_ | refine zbu rfl ?_) | refine zch ?_)
                refine cut_end ⟨rfl, ⟨rfl, rfl, rfl, rfl, rfl, rfl, rfl, rfl, rfl, congrArg Value.bool (decide_eq_decide.2 hintI_one), trivial⟩, rfl⟩
          repeat refine zck ?_
          refine run_bind_eq (l' := [(0, .slice (some ⟨bb, 0, none⟩) N cap), (4, .func (.func F) #[] #[]), (1, .int .i64 a), (2, .int .i64 b), (3, .int .i64 lim), (10, .bool wb), (11, .bool wp), (12, .int .i64 ((b : Int) - (a : Int))), (13, .int .i64 pv)]) (Γ' := [Dat2 134 bb N cap pi.1]) ?_ (fun junk => ?_)
          · refine run_condV rfl (fun hE => ?_) (fun hE => ?_)
            · rw [if_pos hE] at hpi
              rw [← hpi, hp2] at hP
              repeat' (first | refine zck ?_ | refine zcp (by kernel_rfl) ?_ | refine zcm ?_ | (refine zap rfl ?_; first | refine zan rfl ?_ | refine zah [0] hP rfl rfl rfl sub_nil rfl ?_) | refine zch ?_ | refine zcj rfl ?_)
              refine cut_end ⟨rfl, ⟨rfl, rfl, rfl, rfl, rfl, rfl, rfl, rfl, rfl, trivial⟩, rfl⟩
            · rw [if_neg (by rw [hE]; exact Bool.false_ne_true)] at hpi
              repeat' (first | refine zcm ?_ | (refine zap rfl ?_; first | refine zaj rfl ?_ | refine zak rfl ?_ | refine zal rfl ?_ | refine zam rfl rfl (fun _ => ?_) (fun _ => ?_)) | refine zch ?_)
              refine cut_end ⟨rfl, ⟨rfl, rfl, rfl, rfl, rfl, rfl, rfl, rfl, rfl, trivial⟩, by rw [hpi]⟩
          refine run_dat2 0 rfl (fun hs3 => ?_)
          obtain ⟨d3, hd3⟩ : ∃ d3, d3 = pi.1 := ⟨_, rfl⟩
          rw [← hd3] at hs3 hR ⊢
          clear hP hpi hp2 hd3 hC hc hcr hd1 hd2 hpv hh hs1 hs2
          repeat refine zck ?_
          refine run_bind_eq (l' := [(0, .slice (some ⟨bb, 0, none⟩) N cap), (4, .func (.func F) #[] #[]), (1, .int .i64 a), (2, .int .i64 b), (3, .int .i64 lim), (10, .bool wb), (11, .bool wp), (12, .int .i64 ((b : Int) - (a : Int))), (13, .int .i64 pv), (97, .bool (decide (a > 0) && !ltP d3[a - 1]! d3[pv]!))]) (Γ' := [Dat2 134 bb N cap d3]) ?_ (fun junk => ?_)
          · by_cases ha0 : 0 < a
            · have e1 : ((a : Int) - 1).toNat = a - 1 := by omega
              have e2 : ((pv : Nat) : Int).toNat = pv := by omega
              repeat' (first | refine run_drawR PP_mixed (by kernel_rfl) (by kernel_rfl) ?_ | (refine zap rfl ?_; first | refine reg_load_d2 0 rfl rfl (by omega) ?_ | refine zaj rfl ?_ | refine zan rfl ?_ | refine zah [] (hcF w0 _ _) rfl rfl rfl sub_nil rfl ?_ | refine zbk rfl rfl (by omega) ?_ | refine zav rfl rfl (by omega) ?_ | refine zbq rfl rfl ?_ | refine zby rfl ?_ | refine zbu rfl ?_ | refine zas rfl rfl (by omega) ?_) | refine zch ?_)
              refine cut_end ⟨rfl, ⟨rfl, rfl, rfl, rfl, rfl, rfl, rfl, rfl, rfl, ?_, trivial⟩, rfl⟩
              rw [decide_eq_true ha0, Bool.true_and]
              show Value.bool (decide (¬ cmpC d3[((a : Int) - 1).toNat]! d3[((pv : Nat) : Int).toNat]! < 0)) = _
              rw [e1, e2]; simp only [ltP, decide_not]
            · repeat' (first | refine run_drawR PP_mixed (by kernel_rfl) (by kernel_rfl) ?_ | (refine zap rfl ?_; first | refine zak rfl ?_ | refine zan rfl ?_ | refine zbl rfl rfl (by omega) ?_ | refine zbv rfl ?_) | refine zch ?_)
              refine cut_end ⟨rfl, ⟨rfl, rfl, rfl, rfl, rfl, rfl, rfl, rfl, rfl, ?_, trivial⟩, rfl⟩
              rw [decide_eq_false ha0]; rfl
          repeat refine zck ?_
          refine run_condV rfl (fun hE => ?_) (fun hE => ?_)
          · rw [if_pos hE] at hR
            have hq := parteq_range (d := d3) hpr.1 hpr.2 (by omega)
            have hS := partEq_spec w0 F hcF bb N cap d3 a b pv (by omega) hpr.1 hpr.2 hb hs3
            generalize partitionEqual ltP d3 a b pv = q at hR hq hS
            obtain ⟨mid, d4⟩ := q
            dsimp only at hR hq hS
            rw [dif_pos hq] at hR
            repeat' (first | refine zck ?_ | refine zcp (by kernel_rfl) ?_ | refine zcs rfl ?_ | (refine zap rfl ?_; first | refine zan rfl ?_ | refine zan rfl ?_ | refine zah [0] hS rfl rfl rfl sub_nil rfl ?_) | refine zch ?_)
            refine run_dat2 0 rfl (fun hs4 => ?_)
            refine cut_end ⟨rfl, (mid, b, lim, wb, wp, d4), ⟨rfl, rfl, rfl, rfl, rfl, rfl, rfl, trivial⟩, ⟨rfl, by dsimp only; omega, by dsimp only; omega, hb, hlim1, hs4, hR⟩, by dsimp only; omega⟩
          · rw [if_neg (by rw [hE]; exact Bool.false_ne_true)] at hR
            have hq := part_range (d := d3) hpr.1 hpr.2 (by omega)
            have hS := part_spec w0 F hcF bb N cap d3 a b pv (by omega) hpr.1 hpr.2 hb hs3
            generalize partition ltP d3 a b pv = q at hR hq hS
            obtain ⟨mid, ap, d4⟩ := q
            dsimp only at hR hq hS
            rw [dif_pos hq] at hR
            refine zcm ?_
            repeat (first | refine zck ?_ | refine zcl ?_ | refine zcm ?_ | refine zcn ?_)
            first | refine zcp (by kernel_rfl) ?_ | refine zcq PP_mixed (by kernel_rfl) (by kernel_rfl) ?_
            repeat' (refine zap rfl ?_; first | refine zan rfl ?_ | refine zan rfl ?_ | refine zah [0] hS rfl rfl rfl sub_nil rfl ?_ | refine zan rfl ?_)
            all_goals refine zch ?_
            all_goals repeat (first | refine zck ?_ | refine zcl ?_ | refine zcm ?_ | refine zcn ?_)
            refine run_dat2 0 rfl (fun hs4 => ?_)
            by_cases hlt : mid - a < b - mid
            · rw [if_pos hlt] at hR
              have hI := ih a mid lim d4 (by omega) hq.1 (by omega) hlim1 hs4
              unfold PdqAt at hI
              repeat' (first | refine zck ?_ | refine zcp (by kernel_rfl) ?_ | refine zcn ?_ | (refine zap rfl ?_; first | refine zan rfl ?_ | refine zan rfl ?_ | refine zah [0] hI rfl rfl rfl sub_nil rfl ?_ | refine zbg rfl rfl (by omega) ?_ | refine zau rfl rfl (by omega) ?_ | refine zav rfl rfl (by omega) ?_ | refine zbt rfl rfl ?_ | refine zax rfl rfl (by omega) ?_) | refine zch ?_ | refine zci rfl ?_)
              refine run_dat2 0 rfl (fun hs5 => ?_)
              refine cut_end ⟨rfl, (mid + 1, b, lim, decide (mid - a ≥ (b - a) / 8), ap, pdq ltP d4 a mid lim true true), ⟨rfl, rfl, int_eq (by first | rfl | omega | (dsimp only; omega)), rfl, rfl, congrArg Value.bool (decide_eq_decide.2 (by omega)), rfl, trivial⟩, ⟨rfl, by dsimp only; omega, by dsimp only; omega, hb, hlim1, hs5, hR⟩, by dsimp only; omega⟩
            · rw [if_neg hlt] at hR
              have hI := ih (mid + 1) b lim d4 (by omega) (by omega) hb hlim1 hs4
              unfold PdqAt at hI
              repeat' (first | refine zck ?_ | refine zcp (by kernel_rfl) ?_ | refine zcn ?_ | (refine zap rfl ?_; first | refine zan rfl ?_ | refine zan rfl ?_ | refine zah [0] hI rfl rfl rfl sub_nil rfl ?_ | refine zbh rfl rfl (by omega) ?_ | refine zau rfl rfl (by omega) ?_ | refine zav rfl rfl (by omega) ?_ | refine zbt rfl rfl ?_ | refine zax rfl rfl (by omega) ?_) | refine zch ?_ | refine zcj rfl ?_)
              refine run_dat2 0 rfl (fun hs5 => ?_)
              refine cut_end ⟨rfl, (a, mid, lim, decide (b - mid ≥ (b - a) / 8), ap, pdq ltP d4 (mid + 1) b lim true true), ⟨rfl, rfl, rfl, int_eq (by first | rfl | omega | (dsimp only; omega)), rfl, congrArg Value.bool (decide_eq_decide.2 (by omega)), rfl, trivial⟩, ⟨rfl, by dsimp only; omega, hq.1, by dsimp only; omega, hlim1, hs5, hR⟩, by dsimp only; omega⟩
end Go.Proofs.YtloekplbhknepaaGreat.SF

namespace Go.Proofs.YtloekplbhknepaaGreat.SF
open Go.Vc
open Go.Sort (bitsLen pdq)
theorem ins_nil (w0 : World) (F : FuncId) (hcF : CmpF F) (v : Value) : FnE PP w0 [] 110 [v, .int .i64 0, .int .i64 0, .func (.func F) #[] #[]] [] (.tuple #[]) [] := by
  refine fn_of_run en110 fn110 rfl rfl rfl ?_
  repeat' (first | refine zck ?_ | refine zcp (by kernel_rfl) ?_ | refine zcl ?_ | (refine zap rfl ?_; first | refine zan rfl ?_ | refine zan rfl ?_ | refine zau rfl rfl (by omega) ?_) | refine zch ?_)
  refine run_loop1 ?_
  repeat' (first | refine zck ?_ | refine zcp (by kernel_rfl) ?_ | refine zcs rfl ?_ | (refine zap rfl ?_; first | refine zan rfl ?_ | refine zbh rfl rfl (by omega) ?_) | refine zch ?_ | refine zcj rfl ?_)
  exact end_tmp0 rfl ⟨rfl, rfl⟩
theorem pdq_nil (w0 : World) (F : FuncId) (hcF : CmpF F) (v : Value) (lim : Int) : FnE PP w0 [] 89 [v, .int .i64 0, .int .i64 0, .int .i64 lim, .func (.func F) #[] #[]] [] (.tuple #[]) [] := by
  refine fn_of_run en89 fn89 rfl rfl rfl ?_
  repeat' (first | refine zck ?_ | refine zcp (by kernel_rfl) ?_ | refine zcl ?_ | (refine zap rfl ?_; first | refine zan rfl ?_) | refine zch ?_)
  refine run_loop1 ?_
  repeat' (first | refine zck ?_ | refine zcp (by kernel_rfl) ?_ | refine zcl ?_ | (refine zap rfl ?_; first | refine zan rfl ?_ | refine zan rfl ?_ | refine zah [] (ins_nil w0 F hcF _) rfl rfl rfl sub_nil rfl ?_ | refine zbi rfl rfl (by omega) ?_ | refine zav rfl rfl (by omega) ?_) | refine zch ?_ | refine zci rfl ?_)
  exact qret0 (fun _ _ h => h) rfl ⟨rfl, rfl⟩
def sortP (l : List (Int × Int)) : List (Int × Int) := (Go.Sort.sort ltP l.toArray).toList
theorem sortP_holds (l : List (Int × Int)) : (sortP l).Perm l ∧ (sortP l).Pairwise fun x y => x.1 ≤ y.1 := by
  obtain ⟨⟨h1, h2, h3⟩, h4⟩ := Go.Sort.sort_sorts ltP swo_ltP l.toArray
  have hs : (Go.Sort.sort ltP l.toArray).size = l.length := by rw [h1]; simp
  constructor
  · have e1 : (Go.Sort.sort ltP l.toArray).extract 0 l.toArray.size = Go.Sort.sort ltP l.toArray := by
      rw [← h1]; simp
    have e2 : l.toArray.extract 0 l.toArray.size = l.toArray := by simp
    rw [e1, e2] at h3
    exact h3
  · rw [List.pairwise_iff_getElem]
    intro i j hi hj hij
    have h5 := h4 i j (Nat.zero_le _) hij (by simp [sortP] at hj; simp; omega)
    rw [ltP_not] at h5
    simp only [sortP, Array.length_toList] at hi hj
    rw [getElem!_pos _ i hi, getElem!_pos _ j hj] at h5
    simpa [sortP] using h5
theorem sortP_len (l : List (Int × Int)) : (sortP l).length = l.length := (sortP_holds l).1.length_eq
theorem sort_spec (w0 : World) (F : FuncId) (hcF : CmpF F) (a : Option Addr) (N cap : Nat) (l : List (Int × Int)) (hN : N < 65536) (hl : l.length = N) :
    FnE PP w0 [] 61 [.slice a N cap, .func (.func F) #[] #[]] [SlA 134 2 a N cap (prsV l)] (.tuple #[]) [SlA 134 2 a N cap (prsV (sortP l))] := by
  refine fn_of_run en61 fn61 rfl rfl rfl ?_
  refine run_sl_cases 0 rfl ?_ ?_
  · intro h1 h2 h3 h4
    subst h1; subst h2; subst h3
    have hl0 : l = [] := List.eq_nil_of_length_eq_zero hl
    subst hl0
    repeat' (first | refine zck ?_ | refine zcp (by kernel_rfl) ?_ | (refine zap rfl ?_; first | refine reg_convN ((0 : Nat) : Int) rfl (by decide) ?_ | refine zan rfl ?_ | refine zan rfl ?_ | refine zah [] (blen_spec w0 0 (by omega)) rfl rfl rfl sub_nil rfl ?_ | refine zah [] (pdq_nil w0 F hcF _ _) rfl rfl rfl sub_nil rfl ?_ | refine zce rfl ?_) | refine zch ?_)
    have e : sortP [] = [] := List.eq_nil_of_length_eq_zero (sortP_len [])
    exact end_tmp0 rfl ⟨rfl, by rw [e]; rfl⟩
  · intro nb h1 h2 h3
    subst h1
    have hb := (Go.Sort.bitsLen_le_iff N 16).2 (by omega)
    have hP := pdq_spec w0 F hcF nb N cap hN N 0 N (bitsLen N) l.toArray (by omega) (by omega) (Nat.le_refl _) (by omega) (by simpa using hl)
    unfold PdqAt at hP
    have hS : sortP l = (pdq ltP l.toArray 0 N (bitsLen N) true true).toList := by unfold sortP Go.Sort.sort; rw [List.size_toArray, hl]
    unfold Dat2 at hP
    rw [← hS] at hP
    repeat' (first | refine zck ?_ | refine zcp (by kernel_rfl) ?_ | (refine zap rfl ?_; first | refine reg_convN ((N : Nat) : Int) rfl (by rw [IntKind.wrap_u64]; omega) ?_ | refine zan rfl ?_ | refine zan rfl ?_ | refine zah [] (blen_spec w0 N hN) rfl rfl rfl sub_nil rfl ?_ | refine zah [0] hP rfl rfl rfl sub_nil rfl ?_ | refine zce rfl ?_) | refine zch ?_)
    exact end_tmp0 rfl ⟨rfl, rfl⟩
end Go.Proofs.YtloekplbhknepaaGreat.SF

namespace Go.Proofs.YtloekplbhknepaaGreat.SF
open Go.Vc
theorem isNaN64_spec (w0 : World) (x : Int) : FnE PP w0 [] 91 [.int .i64 x] [] (.bool false) [] := by
  refine fn_of_run en91 fn91 rfl rfl rfl ?_
  repeat' (first | refine zck ?_ | refine zcp (by kernel_rfl) ?_ | (refine zap rfl ?_; first | refine zan rfl ?_ | refine zan rfl ?_ | refine zbp rfl rfl ?_) | refine zch ?_)
  refine ret_tmp1 rfl ⟨(show Value.bool (decide (x ≠ x)) = _ from ?_), rfl⟩
  simp
theorem compare_spec (w0 : World) (x y : Int) : FnE PP w0 [] 63 [.int .i64 x, .int .i64 y] [] (.int .i64 (cmpI x y)) [] := by
  refine fn_of_run en63 fn63 rfl rfl rfl ?_
  by_cases h : x < y
  · repeat' (first | refine zck ?_ | refine zcp (by kernel_rfl) ?_ | refine zcm ?_ | (refine zap rfl ?_; first | refine zan rfl ?_ | refine zan rfl ?_ | refine zah [] (isNaN64_spec w0 _) rfl rfl rfl sub_nil rfl ?_ | refine zbg rfl rfl (by omega) ?_) | refine zch ?_ | refine zci rfl ?_ | refine zcj rfl ?_)
    exact ret_tmp1 rfl ⟨int_eq (by unfold cmpI; rw [if_pos h]), rfl⟩
  · by_cases h2 : y < x
    · repeat' (first | refine zck ?_ | refine zcp (by kernel_rfl) ?_ | refine zcm ?_ | (refine zap rfl ?_; first | refine zan rfl ?_ | refine zan rfl ?_ | refine zah [] (isNaN64_spec w0 _) rfl rfl rfl sub_nil rfl ?_ | refine zbh rfl rfl (by omega) ?_ | refine zbk rfl rfl (by omega) ?_) | refine zch ?_ | refine zci rfl ?_ | refine zcj rfl ?_)
      exact ret_tmp1 rfl ⟨int_eq (by unfold cmpI; rw [if_neg h, if_neg (by omega)]), rfl⟩
    · repeat' (first | refine zck ?_ | refine zcp (by kernel_rfl) ?_ | refine zcm ?_ | (refine zap rfl ?_; first | refine zan rfl ?_ | refine zan rfl ?_ | refine zah [] (isNaN64_spec w0 _) rfl rfl rfl sub_nil rfl ?_ | refine zbh rfl rfl (by omega) ?_ | refine zbl rfl rfl (by omega) ?_) | refine zch ?_ | refine zcj rfl ?_)
      exact ret_tmp1 rfl ⟨int_eq (by unfold cmpI; rw [if_neg h, if_pos (by omega)]), rfl⟩
theorem cmpF_int : CmpF 62 := by
  intro w0 x y
  obtain ⟨x1, x2⟩ := x
  obtain ⟨y1, y2⟩ := y
  show FnE PP w0 [] _ [.agg (List.toArray [.int .i64 x1, .int .i64 x2]), .agg (List.toArray [.int .i64 y1, .int .i64 y2])] [] (.int .i64 (cmpI x1 y1)) []
  refine fn_of_run en62 fn62 rfl rfl rfl ?_
  repeat' (first | refine zck ?_ | refine zcp (by kernel_rfl) ?_ | (refine zap rfl ?_; first | refine zan rfl ?_ | refine zab 0 rfl rfl rfl ?_ | refine zab 1 rfl rfl rfl ?_ | refine zah [] (compare_spec w0 _ _) rfl rfl rfl sub_nil rfl ?_ | refine zao rfl ?_ | refine zaq (cs := [_, _]) rfl (fun nb => ?_)) | refine zch ?_)
  refine run_take [] rfl ?_
  exact ret_tmp1 rfl ⟨rfl, rfl⟩
end Go.Proofs.YtloekplbhknepaaGreat.SF

namespace Go.Proofs.YtloekplbhknepaaGreat
open Go.Vc Sim
set_option maxHeartbeats 4000000
abbrev ptr (b : Nat) : Value := .pointer (some ⟨b, 0, none⟩)
def walkS (T : Tr) : Pg (List (Int × Int) × Int) := do
  let r ← T.walk
  if r.1.2 = true then pure (SF.sortP r.1.1, 0) else pure ([], 24)
def walkSR (r : List (Int × Int) × Int) (v : Value) (Γ : List Asn) : Prop :=
  ∃ a1 c1 a2 c2, v = .tuple #[.slice a1 r.1.length c1, .slice a2 r.1.length c2, .int .i64 r.2] ∧ Γ = [SlA 2 1 a1 r.1.length c1 (intsV (r.1.map (·.1))), SlA 2 1 a2 r.1.length c2 (intsV (r.1.map (·.2)))]
theorem bd_walkS (T : Tr) : Pg.Bd 0 (walkS T) := by
  unfold walkS
  refine Pg.bd_then (T.bd_walkK _ _ _ _) ?_ (by decide)
  intro r
  split <;> exact Pg.bd_pure _
theorem map_take_succ {α : Type} (f : α → Int) {l : List α} {i : Nat} {x : α} (h : l[i]? = some x) : intsV ((l.take i).map f) ++ [.int .i64 (f x)] = intsV ((l.take (i + 1)).map f) := by
  rw [List.take_add_one, h]
  simp [intsV]
theorem trWalk (w0 : World) (p : Nat) (T : Tr) (hT : T.Ok) : FnX w0 [] 25 [trV T, spP p] p (walkS T) [] walkSR := by
  have hN0 := hT.pool.2.2.2.2.2.1
  have hN1 := hT.nodes
  intro s hS
  have hG := At.start hS
  generalize Pg.run _ s = R at hG ⊢
  unfold walkS Tr.walk at hG
  refine fn_of_run en25 fn25 rfl rfl rfl ?_
  repeat (first | refine zck ?_ | refine zcl ?_ | refine zcm ?_ | refine zcn ?_)
  first | refine zcp (by kernel_rfl) ?_ | refine zcq PP_mixed (by kernel_rfl) (by kernel_rfl) ?_
  repeat' (refine zap rfl ?_; first | refine zan rfl ?_ | refine zaq (cs := [_, _, _, _, _]) rfl (fun nb => ?_))
  all_goals refine zch ?_
  all_goals repeat (first | refine zck ?_ | refine zcl ?_ | refine zcm ?_ | refine zcn ?_)
  revert nb; intro tb
  refine run_share [1] rfl ?_
  repeat (first | refine zck ?_ | refine zcl ?_ | refine zcm ?_ | refine zcn ?_)
  first | refine zcp (by kernel_rfl) ?_ | refine zcq PP_mixed (by kernel_rfl) (by kernel_rfl) ?_
  repeat' (refine zap rfl ?_; first | refine zaa 0 rfl rfl rfl ?_ | refine zao rfl ?_ | refine zae 1 rfl rfl rfl rfl rfl rfl rfl ?_ | refine zar (fun nb => ?_))
  all_goals refine zch ?_
  all_goals repeat (first | refine zck ?_ | refine zcl ?_ | refine zcm ?_ | refine zcn ?_)
  revert nb; intro lb
  have hsp := trWalkK w0 p T hT (T.pool.nodes.toNat + 1) T.root 0 T.pool.nodes lb (by omega) ⟨hN0, hN1⟩ (by omega)
  repeat (first | refine zck ?_ | refine zcl ?_ | refine zcm ?_ | refine zcn ?_)
  first | refine zcp (by kernel_rfl) ?_ | refine zcq PP_mixed (by kernel_rfl) (by kernel_rfl) ?_
  repeat' (refine zap rfl ?_; first | refine zan rfl ?_ | refine zan rfl ?_ | refine zaa 0 rfl rfl rfl ?_ | (refine reg_callX [0, 0] hG (T.all_walkK _ _ 0 _ hN0) hsp rfl rfl rfl sub_nil ?_; rintro r s v' Γ1 hφ hwr hG; obtain ⟨a2, c2, h3, h4⟩ := hwr; subst h3; subst h4) | refine zao rfl ?_ | refine zan rfl ?_)
  all_goals refine zch ?_
  all_goals repeat (first | refine zck ?_ | refine zcl ?_ | refine zcm ?_ | refine zcn ?_)
  obtain ⟨⟨l, ok⟩, left⟩ := r
  obtain ⟨hφ1, hφ2, hφ3⟩ := hφ
  dsimp only at hG hφ1 hφ2 hφ3
  cases ok with
  | false =>
    rw [if_neg (by decide)] at hG
    rw [hG.done]
    repeat' (first | refine zck ?_ | refine zcp (by kernel_rfl) ?_ | (refine zap rfl ?_; first | refine zan rfl ?_ | refine zan rfl ?_ | refine zbx rfl ?_) | refine zch ?_ | refine zci rfl ?_)
    refine run_nilslice 2 1 ?_
    refine run_nilslice 2 1 ?_
    refine run_take [0, 2, 2] rfl ?_
    exact ret_tmp3 rfl ⟨_, rfl, none, 0, none, 0, rfl, rfl⟩
  | true =>
    rw [if_pos rfl] at hG
    have hl3 := hφ3 rfl
    rw [hG.done]
    have hso := SF.sort_spec w0 _ SF.cmpF_int a2 l.length c2 l (by omega) rfl
    have hlen := SF.sortP_len l
    generalize SF.sortP l = L at hso hlen
    repeat (first | refine zck ?_ | refine zcl ?_ | refine zcm ?_ | refine zcn ?_)
    first | refine zcp (by kernel_rfl) ?_ | refine zcq PP_mixed (by kernel_rfl) (by kernel_rfl) ?_
    repeat' (refine zap rfl ?_; first | refine zan rfl ?_ | refine zbx rfl ?_)
    all_goals refine zch ?_
    all_goals repeat (first | refine zck ?_ | refine zcl ?_ | refine zcm ?_ | refine zcn ?_)
    refine zcj rfl ?_
    repeat (first | refine zck ?_ | refine zcl ?_ | refine zcm ?_ | refine zcn ?_)
    first | refine zcp (by kernel_rfl) ?_ | refine zcq PP_mixed (by kernel_rfl) (by kernel_rfl) ?_
    repeat' (refine zap rfl ?_; first | refine zan rfl ?_ | refine zah [2] hso rfl rfl rfl sub_nil rfl ?_)
    all_goals refine zch ?_
    all_goals repeat (first | refine zck ?_ | refine zcl ?_ | refine zcm ?_ | refine zcn ?_)
    repeat (first | refine zck ?_ | refine zcl ?_ | refine zcm ?_ | refine zcn ?_)
    first | refine zcp (by kernel_rfl) ?_ | refine zcq PP_mixed (by kernel_rfl) (by kernel_rfl) ?_
    repeat' (refine zap rfl ?_; first | refine zan rfl ?_)
    all_goals refine zch ?_
    all_goals repeat (first | refine zck ?_ | refine zcl ?_ | refine zcm ?_ | refine zcn ?_)
    repeat (first | refine zck ?_ | refine zcl ?_ | refine zcm ?_ | refine zcn ?_)
    first | refine zcp (by kernel_rfl) ?_ | refine zcq PP_mixed (by kernel_rfl) (by kernel_rfl) ?_
    repeat' (refine zap rfl ?_; first | refine zan rfl ?_)
    all_goals refine zch ?_
    all_goals repeat (first | refine zck ?_ | refine zcl ?_ | refine zcm ?_ | refine zcn ?_)
    refine run_nilslice 2 1 ?_
    refine run_nilslice 2 1 ?_
    repeat (first | refine zck ?_ | refine zcl ?_ | refine zcm ?_ | refine zcn ?_)
    first | refine zcp (by kernel_rfl) ?_ | refine zcq PP_mixed (by kernel_rfl) (by kernel_rfl) ?_
    repeat' (refine zap rfl ?_; first | refine zan rfl ?_ | refine zce rfl ?_)
    all_goals refine zch ?_
    all_goals repeat (first | refine zck ?_ | refine zcl ?_ | refine zcm ?_ | refine zcn ?_)
    refine run_take [1, 0, 1, 1] rfl ?_
    refine run_loop (S := Nat × (Option Addr × Nat) × (Option Addr × Nat)) (fun st => [(1, spP p), (2, ptr tb), (10, .slice st.2.1.1 st.1 st.2.1.2), (11, .slice st.2.2.1 st.1 st.2.2.2), (31, .slice a2 l.length c2), (32, .int .i64 l.length), (33, .int .i64 (st.1 : Int))])
      (fun st Γ => Γ = [SpaceA p s, SlA 134 2 a2 l.length c2 (prsV L), SlA 2 1 st.2.1.1 st.1 st.2.1.2 (intsV ((L.take st.1).map (·.1))), SlA 2 1 st.2.2.1 st.1 st.2.2.2 (intsV ((L.take st.1).map (·.2)))] ∧ st.1 ≤ l.length) (fun st => l.length - st.1)
      (0, (none, 0), (none, 0)) ⟨rfl, rfl, rfl, rfl, rfl, rfl, rfl, trivial⟩ ⟨rfl, Nat.zero_le _⟩ ?_
    rintro ⟨i, ⟨a1, c1⟩, ⟨a3, c3⟩⟩ Γ junk ⟨rfl, hi⟩
    dsimp only at hi ⊢
    by_cases hlt : i < l.length
    · have hx : L[i]? = some L[i] := List.getElem?_eq_getElem (by omega)
      generalize L[i] = x at hx
      have hrd := prsV_rd hx
      refine run_sl_cases 1 rfl (fun h1 h2 h3 h4 => by omega) (fun bb h1 h2 h3 => ?_)
      subst h1
      repeat (first | refine zck ?_ | refine zcl ?_ | refine zcm ?_ | refine zcn ?_)
      first | refine zcp (by kernel_rfl) ?_ | refine zcq PP_mixed (by kernel_rfl) (by kernel_rfl) ?_
      repeat' (refine zap rfl ?_; first | refine zbg rfl rfl (by omega) ?_)
      all_goals refine zch ?_
      all_goals repeat (first | refine zck ?_ | refine zcl ?_ | refine zcm ?_ | refine zcn ?_)
      refine zci rfl ?_
      repeat (first | refine zck ?_ | refine zcl ?_ | refine zcm ?_ | refine zcn ?_)
      first | refine zcp (by kernel_rfl) ?_ | refine zcq PP_mixed (by kernel_rfl) (by kernel_rfl) ?_
      repeat' (refine zap rfl ?_; first | refine zag 1 rfl rfl (hrd _ (by omega)) (by intro _; omega) ?_ | refine zae 4 rfl rfl rfl rfl rfl rfl rfl ?_ | refine zas rfl rfl (by omega) ?_ | refine zar (fun nb => ?_))
      all_goals refine zch ?_
      all_goals repeat (first | refine zck ?_ | refine zcl ?_ | refine zcm ?_ | refine zcn ?_)
      repeat (first | refine zck ?_ | refine zcl ?_ | refine zcm ?_ | refine zcn ?_)
      first | refine zcp (by kernel_rfl) ?_ | refine zcq PP_mixed (by kernel_rfl) (by kernel_rfl) ?_
      repeat' (refine zap rfl ?_; first | refine zan rfl ?_ | refine zan rfl ?_ | refine zaa 0 rfl rfl rfl ?_ | refine zab 4 rfl rfl rfl ?_ | refine reg_invokeE [] (trKey w0 _) rfl rfl rfl sub_nil rfl ?_ | refine zao rfl ?_ | refine zan rfl ?_)
      all_goals refine zch ?_
      all_goals repeat (first | refine zck ?_ | refine zcl ?_ | refine zcm ?_ | refine zcn ?_)
      repeat (first | refine zck ?_ | refine zcl ?_ | refine zcm ?_ | refine zcn ?_)
      first | refine zcp (by kernel_rfl) ?_ | refine zcq PP_mixed (by kernel_rfl) (by kernel_rfl) ?_
      repeat' (refine zap rfl ?_; first | refine zan rfl ?_ | refine zbx rfl ?_)
      all_goals refine zch ?_
      all_goals repeat (first | refine zck ?_ | refine zcl ?_ | refine zcm ?_ | refine zcn ?_)
      refine zcj rfl ?_
      refine run_share [4] rfl ?_
      repeat (first | refine zck ?_ | refine zcl ?_ | refine zcm ?_ | refine zcn ?_)
      first | refine zcp (by kernel_rfl) ?_ | refine zcq PP_mixed (by kernel_rfl) (by kernel_rfl) ?_
      repeat' (refine zap rfl ?_; first | refine reg_buildSlice rfl rfl rfl rfl rfl rfl (fun nb2 => ?_) | refine reg_append 2 4 rfl rfl rfl rfl rfl rfl rfl rfl (by first | omega | (dsimp only; omega)) (fun _ _ => rfl) (fun a1' c1' => ?_) | refine reg_append 3 5 rfl rfl rfl rfl rfl rfl rfl rfl (by first | omega | (dsimp only; omega)) (fun _ _ => rfl) (fun a3' c3' => ?_) | refine zan rfl ?_ | refine zan rfl ?_ | refine zaa 0 rfl rfl rfl ?_ | refine zao rfl ?_)
      all_goals refine zch ?_
      all_goals repeat (first | refine zck ?_ | refine zcl ?_ | refine zcm ?_ | refine zcn ?_)
      repeat (first | refine zck ?_ | refine zcl ?_ | refine zcm ?_ | refine zcn ?_)
      first | refine zcp (by kernel_rfl) ?_ | refine zcq PP_mixed (by kernel_rfl) (by kernel_rfl) ?_
      repeat' (refine zap rfl ?_; first | refine zan rfl ?_ | refine zau rfl rfl (by omega) ?_)
      all_goals refine zch ?_
      all_goals repeat (first | refine zck ?_ | refine zcl ?_ | refine zcm ?_ | refine zcn ?_)
      refine run_take [0, 0, 0, 0] rfl ?_
      refine cut_end ⟨rfl, (i + 1, (a1', c1'), (a3', c3')), ⟨rfl, rfl, rfl, rfl, rfl, rfl, int_eq (by dsimp only; omega), trivial⟩, ⟨?_, hlt⟩, by dsimp only; omega⟩
      dsimp only
      rw [← map_take_succ (·.1) hx, ← map_take_succ (·.2) hx]
      rfl
    · have hil : i = l.length := by omega
      subst hil
      repeat' (first | refine zck ?_ | refine zcp (by kernel_rfl) ?_ | (refine zap rfl ?_; first | refine zbh rfl rfl (by omega) ?_) | refine zch ?_ | refine zcj rfl ?_)
      refine cut_exit rfl rfl ?_
      repeat' (first | refine zck ?_ | refine zcp (by kernel_rfl) ?_ | (refine zap rfl ?_; first | refine zan rfl ?_ | refine zan rfl ?_) | refine zch ?_)
      have e : L.take l.length = L := by rw [← hlen, List.take_length]
      rw [e]
      rw [← hlen]
      refine run_take [0, 1, 1] rfl ?_
      exact ret_tmp3 rfl ⟨_, rfl, a1, c1, a3, c3, rfl, rfl⟩
theorem trLen (w0 : World) (p : Nat) (T : Tr) (hT : T.Ok) : FnG w0 [] 72 [trV T, spP p] p T.len (.int .i64) := by
  intro s hS
  have hG := At.start hS
  generalize Pg.run _ s = R at hG ⊢
  unfold Tr.len at hG
  have hr := hT.r1
  have hr0 := hT.r0
  refine fn_of_run en72 fn72 rfl rfl rfl ?_
  replace hG : At R (Pg.gt (T.root + 1) >>= fun u => Pg.ret u) s := hG
  repeat' (first | refine zck ?_ | refine zcp (by kernel_rfl) ?_ | (refine zap rfl ?_; first | refine zan rfl ?_ | refine zan rfl ?_ | refine zab 1 rfl rfl rfl ?_ | refine reg_callG [0] hG (getG w0 p _) rfl rfl rfl sub_nil (fun u s hG => ?_) | refine zao rfl ?_ | refine zau rfl rfl (by omega) ?_ | refine zaq (cs := [_, _, _, _, _]) rfl (fun nb => ?_)) | refine zch ?_)
  rw [hG.done]
  refine run_take [0] rfl ?_
  exact ret_tmp1 rfl ⟨rfl, rfl⟩
end Go.Proofs.YtloekplbhknepaaGreat

namespace Sim
open Go Go.Vc
open Pg
theorem Pg.bd_all0 {α β : Type} {f : α → Pg β} {φ : α → Prop} {n : Nat} : ∀ {g : Pg α}, Bd 0 g → All φ g → (∀ a, φ a → Bd n (f a)) → Bd n (g >>= f)
  | ret a, _, h2, h3 => h3 a h2
  | get x k, h1, h2, h3 => by
    have ih := fun v => bd_all0 (g := k v) (h1 v) (h2 v) h3
    cases n <;> exact ih
  | put _ _ k, h1, _, _ => (show False from h1).elim
  | mark k, h1, h2, h3 => by
    have ih := fun v => bd_all0 (g := k v) (h1 v) (h2 v) h3
    cases n <;> exact ih
  | back _ k, h1, h2, h3 => by
    have ih := bd_all0 (g := k) h1 h2 h3
    cases n <;> exact ih
namespace Tr
variable (T : Tr)
theorem bd_dropAt (w : TWay) (hw : w.bs.length ≤ 4) (cell at_ : Int) : Bd 26 (T.dropAt w cell at_) := by
  unfold Tr.dropAt
  have hl : (w.bs.zip w.cs).reverse.length ≤ 4 := by rw [List.length_reverse, List.length_zip]; omega
  refine bd_then (bd_gt0 _) (fun _ => bd_then (bd_gt0 _) (fun _ => bd_then (bd_pt _ _) (fun _ => bd_then (T.bd_give _) (fun _ => bd_ite (bd_pure _) (bd_then (T.bd_add _ _) (fun _ => (T.bd_fold _ _).mono (by omega)) (by decide))) (by decide)) (by decide)) (by decide)) (by decide)
theorem bd_dropIn (hT : T.Ok) (n h : Int) : Bd 26 (T.dropIn n h) := by
  unfold Tr.dropIn
  refine bd_all0 (T.bd_down h) (T.all_down hT h) fun w hw => bd_ite (bd_then (T.bd_leaf _ _) (fun _ => bd_ite (bd_ite (bd_pure _) (T.bd_dropAt _ ?_ _ _)) (bd_pure _)) (by decide)) (bd_pure _)
  have := hw.1; have := hw.2.2.1; omega
theorem bd_drop (hT : T.Ok) (n h : Int) : Bd 26 (T.drop n h) := by
  unfold Tr.drop
  refine bd_then bd_mk0 (fun _ => bd_then (T.bd_dropIn hT _ _) (fun _ => ?_) (by decide)) (by decide)
  unfold Tr.afterD
  exact bd_ite (bd_then (bd_bk0 _) (fun _ => bd_pure _) (by decide)) (bd_pure _)
end Tr
end Sim

namespace Go.Proofs.YtloekplbhknepaaGreat
open Go.Vc Sim
section
variable {P : Program} {w0 : World} {n : Nat} {sh : Shared} {Q : Exit → Env → List Deferred → List Asn → Prop} {k : List Item} {ρ : Env} {df : List Deferred} {Γ : List Asn}
variable {ops : Array Oper} {l : List (Fl × Nat × Oper)} {b : Fl} {i d : Nat} {ty : TypeId} {pos : String} {aft : Array Edge}
theorem reg_bin_gen {op : BinOp} {x y : Operand} {t yt : TypeId} {u v : Value} (r : Value) (hx : ev ρ x = u) (hy : ev ρ y = v) (hg : eqGuard op t x y u v = pure ()) (hb : binOp op t u v = pure r)
    (h : Reg P w0 n sh Q ops l k (ρ.set d r) df Γ) : Reg P w0 n sh Q ops ((b, i, ⟨some d, .binOp op t x y yt, ty, pos, aft, none⟩) :: l) k ρ df Γ :=
  reg_quiet rfl (fun hF _ => quiet_of_run fun w => by
    subst hx; subst hy
    simp only [execOp, hg, hb]; simp) h
end
theorem ref0_spec (w0 : World) : FnE PP w0 [] 145 [.int .i64 0, .int .i64 0] [] (.tuple #[.int .u32 0, .int .i64 3]) [] := by
  refine fn_of_run en145 fn145 rfl rfl rfl ?_
  repeat' (first | refine zck ?_ | refine zcp (by kernel_rfl) ?_ | (refine zap rfl ?_; first | refine zak rfl ?_ | refine zan rfl ?_ | refine zan rfl ?_ | refine zbg rfl rfl (by omega) ?_ | refine zbu rfl ?_) | refine zch ?_ | refine zci rfl ?_)
  exact ret_tmp2 rfl ⟨rfl, rfl⟩
theorem who0_spec (w0 : World) : FnE PP w0 [] 143 [.int .u32 0] [] (.tuple #[.int .i64 0, .int .i64 0]) [] := by
  refine fn_of_run en143 fn143 rfl rfl rfl ?_
  repeat' (first | refine zck ?_ | refine zcp (by kernel_rfl) ?_ | (refine zap rfl ?_; first | refine reg_bin_gen (.int .u32 0) rfl rfl rfl rfl ?_ | refine zan rfl ?_ | refine zan rfl ?_ | refine zah [] (ref0_spec w0) rfl rfl rfl sub_nil rfl ?_ | refine zan rfl ?_ | refine zbe rfl rfl (by omega) ?_ | refine zbz rfl (by omega) ?_) | refine zch ?_ | refine zci rfl ?_)
  exact ret_tmp2 rfl ⟨rfl, rfl⟩
theorem kind0_spec (w0 : World) (v r : Int) : FnE PP w0 [] 137 [.agg #[.int .i64 v, .int .u32 r, .int .u32 0]] [] (.int .i64 0) [] := by
  refine fn_of_run en137 fn137 rfl rfl rfl ?_
  repeat' (first | refine zck ?_ | refine zcp (by kernel_rfl) ?_ | refine zcl ?_ | (refine zap rfl ?_; first | refine zan rfl ?_ | refine zan rfl ?_ | refine zab 0 rfl rfl rfl ?_ | refine zah [] (who0_spec w0) rfl rfl rfl sub_nil rfl ?_ | refine zao rfl ?_ | refine zan rfl ?_ | refine zbc rfl rfl (by omega) ?_ | refine zaq (cs := [_, _, _]) rfl (fun nb => ?_)) | refine zch ?_ | refine zci rfl ?_)
  refine run_take [] rfl ?_
  exact ret_tmp1 rfl ⟨rfl, rfl⟩
theorem plain0_spec (w0 : World) (v r : Int) : FnE PP w0 [] 121 [.agg #[.int .i64 v, .int .u32 r, .int .u32 0]] [] (.bool true) [] := by
  refine fn_of_run en121 fn121 rfl rfl rfl ?_
  repeat' (first | refine zck ?_ | refine zcp (by kernel_rfl) ?_ | (refine zap rfl ?_; first | refine zan rfl ?_ | refine zab 0 rfl rfl rfl ?_ | refine zah [] (kind0_spec w0 v r) rfl rfl rfl sub_nil rfl ?_ | refine zbc rfl rfl (by omega) ?_ | refine zaq (cs := [_, _, _]) rfl (fun nb => ?_)) | refine zch ?_)
  refine run_take [] rfl ?_
  exact ret_tmp1 rfl ⟨rfl, rfl⟩

structure En where
  loc : Int
  old : Wd
  new : Int
  wr : Bool
def enL (e : En) : List Value := [.int .i64 e.loc, .int .i64 e.old.val, .int .u32 e.old.ver, .int .u32 e.old.ref, .int .i64 e.new, .bool e.wr]
def enV (e : En) : Value := .agg (List.toArray (enL e))
def wrongI (e : En) : Int :=
  if e.loc < 0 ∨ 4096 ≤ e.loc then 3 else if e.wr = true ∧ e.old.ver = 4294967295 then 9 else if e.wr = false ∧ e.new ≠ e.old.val then 4 else 0
theorem wrong_spec (w0 : World) (e : En) (h0 : e.old.ref = 0) : FnE PP w0 [] 104 [enV e] [] (.int .i64 (wrongI e)) [] := by
  obtain ⟨loc, ⟨ov, over, oref⟩, nw, wr⟩ := e
  dsimp only at h0
  subst h0
  obtain ⟨R, hR⟩ : ∃ R, R = wrongI ⟨loc, ⟨ov, over, 0⟩, nw, wr⟩ := ⟨_, rfl⟩
  rw [← hR]
  show FnE PP w0 [] _ [.agg (List.toArray [.int .i64 loc, .int .i64 ov, .int .u32 over, .int .u32 0, .int .i64 nw, .bool wr])] [] (.int .i64 R) []
  unfold wrongI at hR
  dsimp only at hR
  refine fn_of_run en104 fn104 rfl rfl rfl ?_
  by_cases h1 : loc < 0
  · rw [if_pos (.inl h1)] at hR
    repeat' (first | refine zck ?_ | refine zcp (by kernel_rfl) ?_ | refine zcl ?_ | (refine zap rfl ?_; first | refine zak rfl ?_ | refine zan rfl ?_ | refine zan rfl ?_ | refine zab 0 rfl rfl rfl ?_ | refine zao rfl ?_ | refine zbg rfl rfl (by omega) ?_ | refine zbu rfl ?_ | refine zaq (cs := [_, _, _, _, _, _]) rfl (fun nb => ?_)) | refine zch ?_ | refine zci rfl ?_)
    refine run_take [] rfl ?_
    exact ret_tmp1 rfl ⟨by rw [hR]; rfl, rfl⟩
  · by_cases h2 : 4096 ≤ loc
    · rw [if_pos (.inr h2)] at hR
      repeat' (first | refine zck ?_ | refine zcp (by kernel_rfl) ?_ | refine zcl ?_ | (refine zap rfl ?_; first | refine zaj rfl ?_ | refine zan rfl ?_ | refine zan rfl ?_ | refine zab 0 rfl rfl rfl ?_ | refine zao rfl ?_ | refine zbh rfl rfl (by omega) ?_ | refine zbm rfl rfl (by omega) ?_ | refine zbv rfl ?_ | refine zaq (cs := [_, _, _, _, _, _]) rfl (fun nb => ?_)) | refine zch ?_ | refine zci rfl ?_)
      refine run_take [] rfl ?_
      exact ret_tmp1 rfl ⟨by rw [hR]; rfl, rfl⟩
    · rw [if_neg (by omega)] at hR
      cases wr with
      | false =>
        repeat' (first | refine zck ?_ | refine zcp (by kernel_rfl) ?_ | refine zcl ?_ | (refine zap rfl ?_; first | refine zaj rfl ?_ | refine zak rfl ?_ | refine zan rfl ?_ | refine zan rfl ?_ | refine zab 0 rfl rfl rfl ?_ | refine zah [] (plain0_spec w0 ov over) rfl rfl rfl sub_nil rfl ?_ | refine zao rfl ?_ | refine zbh rfl rfl (by omega) ?_ | refine zbn rfl rfl (by omega) ?_ | refine zbp rfl rfl ?_ | refine zbx rfl ?_ | refine zbu rfl ?_ | refine zbv rfl ?_ | refine zaq (cs := [_, _, _, _, _, _]) rfl (fun nb => ?_)) | refine zch ?_ | refine zcj rfl ?_)
        refine run_cond rfl (fun hE => ?_) (fun hE => ?_)
        · rw [if_neg (by simp), if_pos ⟨rfl, hE⟩] at hR
          repeat' (first | refine zck ?_ | refine zcp (by kernel_rfl) ?_ | (refine zap rfl ?_; first | refine zan rfl ?_) | refine zch ?_)
          refine run_take [] rfl ?_
          exact ret_tmp1 rfl ⟨by rw [hR]; rfl, rfl⟩
        · rw [if_neg (by simp), if_neg (fun h => hE h.2)] at hR
          repeat' (first | refine zck ?_ | refine zcp (by kernel_rfl) ?_ | refine zcm ?_ | refine zcn ?_ | (refine zap rfl ?_; first | refine zan rfl ?_) | refine zch ?_)
          refine run_take [] rfl ?_
          exact ret_tmp1 rfl ⟨by rw [hR]; rfl, rfl⟩
      | true =>
        repeat' (first | refine zck ?_ | refine zcp (by kernel_rfl) ?_ | refine zcl ?_ | (refine zap rfl ?_; first | refine zaj rfl ?_ | refine zan rfl ?_ | refine zan rfl ?_ | refine zab 0 rfl rfl rfl ?_ | refine zah [] (plain0_spec w0 ov over) rfl rfl rfl sub_nil rfl ?_ | refine zao rfl ?_ | refine zbh rfl rfl (by omega) ?_ | refine zbn rfl rfl (by omega) ?_ | refine zbo rfl rfl ?_ | refine zbx rfl ?_ | refine zbu rfl ?_ | refine zbv rfl ?_ | refine zaq (cs := [_, _, _, _, _, _]) rfl (fun nb => ?_)) | refine zch ?_ | refine zcj rfl ?_)
        refine run_cond rfl (fun hE => ?_) (fun hE => ?_)
        · rw [if_pos ⟨rfl, hE⟩] at hR
          repeat' (first | refine zck ?_ | refine zcp (by kernel_rfl) ?_ | (refine zap rfl ?_; first | refine zan rfl ?_) | refine zch ?_)
          refine run_take [] rfl ?_
          exact ret_tmp1 rfl ⟨by rw [hR]; rfl, rfl⟩
        · rw [if_neg (fun h => hE h.2), if_neg (by simp)] at hR
          repeat' (first | refine zck ?_ | refine zcp (by kernel_rfl) ?_ | refine zcm ?_ | refine zcn ?_ | (refine zap rfl ?_; first | refine zak rfl ?_ | refine zan rfl ?_ | refine zan rfl ?_ | refine zab 0 rfl rfl rfl ?_ | refine zao rfl ?_ | refine zbx rfl ?_ | refine zbv rfl ?_) | refine zch ?_ | refine zcj rfl ?_)
          refine run_take [] rfl ?_
          exact ret_tmp1 rfl ⟨by rw [hR]; rfl, rfl⟩
end Go.Proofs.YtloekplbhknepaaGreat

namespace Go.Proofs.YtloekplbhknepaaGreat
open Go.Vc Sim
def flatE : List En → List Value
  | [] => []
  | e :: l => enL e ++ flatE l
theorem flatE_get : ∀ (l : List En) (i : Nat) (e : En) (k : Nat) (u : Value), l[i]? = some e → (enL e)[k]? = some u → (flatE l)[i * 6 + k]? = some u
  | [], i, e, k, u, h, _ => by simp at h
  | x :: l, 0, e, k, u, h, hk => by
    simp at h; subst h
    have hl := (List.getElem?_eq_some_iff.1 hk).1
    simp only [flatE, Nat.zero_mul, Nat.zero_add]
    rw [List.getElem?_append_left hl]; exact hk
  | x :: l, i + 1, e, k, u, h, hk => by
    have := flatE_get l i e k u (by simpa using h) hk
    simp only [flatE]
    rw [List.getElem?_append_right (by simp [enL]; omega)]
    have e6 : (i + 1) * 6 + k - (enL x).length = i * 6 + k := by simp [enL]; omega
    rw [e6]; exact this
theorem flatE_rd {l : List En} {i : Nat} {e : En} (h : l[i]? = some e) (o : Nat) (ho : o = i * 6) : rd true 6 (flatE l) o = some (enV e) := by
  have := rd_cells (c := (flatE l).toArray) (o := i * 6) (q := 6) (vs := enL e) rfl (fun k u hk => by simpa using flatE_get l i e k u h hk) o ho
  exact this
theorem chk1_spec (w0 : World) (x y : En) (xc : Nat) : FnE PP w0 [] 106 [enV y, .pointer (some ⟨xc, 0, none⟩)] [pt xc (.cells (List.toArray (enL x)) 107 (0, 0))] (.bool (decide (y.loc = x.loc))) [pt xc (.cells (List.toArray (enL x)) 107 (0, 0))] := by
  obtain ⟨xl, ⟨xv, xr, xf⟩, xn, xw⟩ := x
  obtain ⟨yl, ⟨yv, yr, yf⟩, yn, yw⟩ := y
  show FnE PP w0 [] _ [.agg (List.toArray [.int .i64 yl, .int .i64 yv, .int .u32 yr, .int .u32 yf, .int .i64 yn, .bool yw]), .pointer (some ⟨xc, 0, none⟩)] [pt xc (.cells (List.toArray [.int .i64 xl, .int .i64 xv, .int .u32 xr, .int .u32 xf, .int .i64 xn, .bool xw]) _ (0, 0))] (.bool (decide (yl = xl))) [pt xc (.cells (List.toArray [.int .i64 xl, .int .i64 xv, .int .u32 xr, .int .u32 xf, .int .i64 xn, .bool xw]) _ (0, 0))]
  refine fn_of_run en106 fn106 rfl rfl rfl ?_
  repeat' (first | refine zck ?_ | refine zcp (by kernel_rfl) ?_ | (refine zap rfl ?_; first | refine zan rfl ?_ | refine zab 0 rfl rfl rfl ?_ | refine zab 1 rfl rfl rfl ?_ | refine zao rfl ?_ | refine zbo rfl rfl ?_ | refine zaq (cs := [_, _, _, _, _, _]) rfl (fun nb => ?_)) | refine zch ?_)
  refine run_take [0] rfl ?_
  exact ret_tmp1 rfl ⟨rfl, rfl⟩
def idxI (x : Int) : List En → Int → Int
  | [], _ => -1
  | e :: l, k => if e.loc = x then k else idxI x l (k + 1)
abbrev EnA (a : Option Addr) (cap : Nat) (es : List En) : Asn := SlA 107 6 a es.length cap (flatE es)
abbrev EnC (xc : Nat) (x : En) : Asn := pt xc (.cells (List.toArray (enL x)) 107 (0, 0))
abbrev ChkF (xc : Nat) : Value := .func (.func 106) #[] #[.pointer (some ⟨xc, 0, none⟩)]
theorem idx_spec (w0 : World) (a : Option Addr) (cap : Nat) (es : List En) (x : En) (xc i : Nat) (hi : i ≤ es.length) (hl : es.length ≤ 1099511627776) :
    FnE PP w0 [] 122 [.slice a i cap, ChkF xc] [EnA a cap es, EnC xc x] (.int .i64 (idxI x.loc (es.take i) 0)) [EnA a cap es, EnC xc x] := by
  refine fn_of_run en122 fn122 rfl rfl rfl ?_
  refine run_sl_cases 0 rfl ?_ ?_
  · intro h1 h2 h3 h4
    have hi0 : i = 0 := by omega
    subst hi0
    repeat' (first | refine zck ?_ | refine zcp (by kernel_rfl) ?_ | refine zcl ?_ | (refine zap rfl ?_; first | refine zan rfl ?_ | refine zan rfl ?_ | refine zce rfl ?_) | refine zch ?_)
    refine run_loop1 ?_
    repeat' (first | refine zck ?_ | refine zcp (by kernel_rfl) ?_ | refine zcs rfl ?_ | (refine zap rfl ?_; first | refine zan rfl ?_ | refine zbh rfl rfl (by omega) ?_) | refine zch ?_ | refine zcj rfl ?_)
    exact ret_tmp1 rfl ⟨rfl, rfl⟩
  · intro bb h1 h2 h3
    subst h1
    repeat' (first | refine zck ?_ | refine zcp (by kernel_rfl) ?_ | refine zcl ?_ | (refine zap rfl ?_; first | refine zan rfl ?_ | refine zan rfl ?_ | refine zce rfl ?_) | refine zch ?_)
    refine run_loop (S := Nat) (fun j => [(0, .slice (some ⟨bb, 0, none⟩) i cap), (1, ChkF xc), (7, .int .i64 i), (8, .int .i64 j)])
      (fun j Γ => Γ = [EnA (some ⟨bb, 0, none⟩) cap es, EnC xc x] ∧ j ≤ i ∧ idxI x.loc ((es.take i).drop j) j = idxI x.loc (es.take i) 0)
      (fun j => i - j) 0 ⟨rfl, rfl, rfl, rfl, trivial⟩ ⟨rfl, by omega, rfl⟩ ?_
    rintro j Γ junk ⟨rfl, g1, g2⟩
    by_cases hj : j < i
    · obtain ⟨e, he⟩ : ∃ e, es[j]? = some e := ⟨_, List.getElem?_eq_getElem (by omega)⟩
      have hd : (es.take i).drop j = e :: (es.take i).drop (j + 1) := by
        have hlt : j < (es.take i).length := by simp; omega
        rw [List.drop_eq_getElem_cons hlt]
        congr 1
        have : (es.take i)[j]? = some e := by rw [List.getElem?_take_of_lt hj]; exact he
        exact (List.getElem?_eq_some_iff.1 this).2
      have hr := flatE_rd he
      repeat' (first | refine zck ?_ | refine zcp (by kernel_rfl) ?_ | refine zcm ?_ | refine zcl ?_ | (refine zap rfl ?_; first | refine zag 0 rfl rfl (hr _ (by omega)) (by intro _; omega) ?_ | refine zan rfl ?_ | refine zan rfl ?_ | refine zah [1] (chk1_spec w0 x e xc) rfl rfl rfl sub_nil rfl ?_ | refine zbg rfl rfl (by omega) ?_ | refine zas rfl rfl (by omega) ?_) | refine zch ?_ | refine zci rfl ?_)
      refine run_perm (List.Perm.swap _ _ _) ?_
      rw [hd, idxI] at g2
      refine run_cond rfl (fun hE => ?_) (fun hE => ?_)
      · rw [if_pos hE] at g2
        repeat' (first | refine zck ?_ | refine zcp (by kernel_rfl) ?_ | (refine zap rfl ?_; first | refine zan rfl ?_ | refine zan rfl ?_) | refine zch ?_)
        exact qret1 (fun _ _ h => h) rfl ⟨by rw [← g2]; rfl, rfl⟩
      · rw [if_neg hE] at g2
        repeat' (first | refine zcp (by kernel_rfl) ?_ | refine zcm ?_ | refine zcn ?_ | (refine zap rfl ?_; first | refine zan rfl ?_ | refine zau rfl rfl (by omega) ?_) | refine zch ?_)
        exact cut_end ⟨rfl, j + 1, ⟨rfl, rfl, rfl, int_eq (by omega), trivial⟩, ⟨rfl, by omega, by rw [← g2]; rfl⟩, by omega⟩
    · repeat' (first | refine zck ?_ | refine zcp (by kernel_rfl) ?_ | (refine zap rfl ?_; first | refine zbh rfl rfl (by omega) ?_) | refine zch ?_ | refine zcj rfl ?_)
      refine cut_exit rfl rfl ?_
      repeat' (first | refine zck ?_ | refine zcp (by kernel_rfl) ?_ | (refine zap rfl ?_; first | refine zan rfl ?_) | refine zch ?_)
      rw [List.drop_of_length_le (by simp; omega)] at g2
      exact ret_tmp1 rfl ⟨by rw [← g2]; rfl, rfl⟩
theorem contains_spec (w0 : World) (a : Option Addr) (cap : Nat) (es : List En) (x : En) (xc i : Nat) (hi : i ≤ es.length) (hl : es.length ≤ 1099511627776) :
    FnE PP w0 [] 105 [.slice a i cap, ChkF xc] [EnA a cap es, EnC xc x] (.bool (decide (0 ≤ idxI x.loc (es.take i) 0))) [EnA a cap es, EnC xc x] := by
  refine fn_of_run en105 fn105 rfl rfl rfl ?_
  repeat' (first | refine zck ?_ | refine zcp (by kernel_rfl) ?_ | (refine zap rfl ?_; first | refine zan rfl ?_ | refine zan rfl ?_ | refine zah [0, 0] (idx_spec w0 a cap es x xc i hi hl) rfl rfl rfl sub_nil rfl ?_ | refine zbt rfl rfl ?_) | refine zch ?_)
  exact ret_tmp1 rfl ⟨rfl, rfl⟩
end Go.Proofs.YtloekplbhknepaaGreat

namespace Go.Proofs.YtloekplbhknepaaGreat
open Go.Vc Sim
def chkI (es : List En) : List En → Nat → Int
  | [], _ => 0
  | e :: l, i => if wrongI e ≠ 0 then wrongI e else if 0 ≤ idxI e.loc (es.take i) 0 then 11 else chkI es l (i + 1)
def checkI (es : List En) : Int := if es.length = 0 then 8 else if 32 < es.length then 15 else chkI es es 0
set_option maxHeartbeats 2000000
theorem echeck_spec (w0 : World) (a : Option Addr) (cap : Nat) (es : List En) (hr : ∀ e ∈ es, e.old.ref = 0) (hl : es.length ≤ 1099511627776) :
    FnE PP w0 [] 82 [.slice a es.length cap] [EnA a cap es] (.int .i64 (checkI es)) [EnA a cap es] := by
  refine fn_of_run en82 fn82 rfl rfl rfl ?_
  unfold checkI
  by_cases h0 : es.length = 0
  · rw [if_pos h0]
    repeat' (first | refine zck ?_ | refine zcp (by kernel_rfl) ?_ | refine zcl ?_ | (refine zap rfl ?_; first | refine zan rfl ?_ | refine zan rfl ?_ | refine zce rfl ?_ | refine zbc rfl rfl (by omega) ?_) | refine zch ?_ | refine zci rfl ?_)
    exact ret_tmp1 rfl ⟨rfl, rfl⟩
  · rw [if_neg h0]
    by_cases h1 : 32 < es.length
    · rw [if_pos h1]
      repeat' (first | refine zck ?_ | refine zcp (by kernel_rfl) ?_ | refine zcl ?_ | (refine zap rfl ?_; first | refine zan rfl ?_ | refine zan rfl ?_ | refine zce rfl ?_ | refine zbd rfl rfl (by omega) ?_ | refine zbk rfl rfl (by omega) ?_) | refine zch ?_ | refine zci rfl ?_ | refine zcj rfl ?_)
      exact ret_tmp1 rfl ⟨rfl, rfl⟩
    · rw [if_neg h1]
      refine run_sl_cases 0 rfl (fun _ h _ _ => absurd h h0) ?_
      intro bb h2 h3 h4
      subst h2
      repeat' (first | refine zck ?_ | refine zcp (by kernel_rfl) ?_ | refine zcm ?_ | refine zcl ?_ | refine zcn ?_ | (refine zap rfl ?_; first | refine zan rfl ?_ | refine zan rfl ?_ | refine zce rfl ?_ | refine zbd rfl rfl (by omega) ?_ | refine zbl rfl rfl (by omega) ?_) | refine zch ?_ | refine zcj rfl ?_)
      refine run_loop (S := Nat) (fun j => [(0, .slice (some ⟨bb, 0, none⟩) es.length cap), (14, .slice (some ⟨bb, 0, none⟩) es.length cap), (15, .int .i64 es.length), (16, .int .i64 j)])
        (fun j Γ => Γ = [EnA (some ⟨bb, 0, none⟩) cap es] ∧ j ≤ es.length ∧ chkI es (es.drop j) j = chkI es es 0)
        (fun j => es.length - j) 0 ⟨rfl, rfl, rfl, rfl, trivial⟩ ⟨rfl, by omega, rfl⟩ ?_
      rintro j Γ junk ⟨rfl, g1, g2⟩
      by_cases hj : j < es.length
      · obtain ⟨e, he⟩ : ∃ e, es[j]? = some e := ⟨_, List.getElem?_eq_getElem hj⟩
        have hd : es.drop j = e :: es.drop (j + 1) := by
          rw [List.drop_eq_getElem_cons hj]
          congr 1
          exact (List.getElem?_eq_some_iff.1 he).2
        have hrd := flatE_rd he
        have hW := wrong_spec w0 e (hr e (List.mem_of_getElem? he))
        rw [hd, chkI] at g2
        repeat' (first | refine zck ?_ | refine zcp (by kernel_rfl) ?_ | refine zcm ?_ | refine zcl ?_ | (refine zap rfl ?_; first | refine zag 0 rfl rfl (hrd _ (by omega)) (by intro _; omega) ?_ | refine zan rfl ?_ | refine zan rfl ?_ | refine zab 1 rfl rfl rfl ?_ | refine zah [] hW rfl rfl rfl sub_nil rfl ?_ | refine zbg rfl rfl (by omega) ?_ | refine zbp rfl rfl ?_ | refine zae 1 rfl rfl rfl rfl rfl rfl rfl ?_ | refine zas rfl rfl (by omega) ?_ | refine zar (fun nb => ?_)) | refine zch ?_ | refine zci rfl ?_)
        refine run_cond rfl (fun hE => ?_) (fun hE => ?_)
        · rw [if_pos hE] at g2
          repeat' (first | refine zck ?_ | refine zcp (by kernel_rfl) ?_ | (refine zap rfl ?_; first | refine zan rfl ?_ | refine zan rfl ?_) | refine zch ?_)
          refine run_take [0] rfl ?_
          exact qret1 (fun _ _ h => h) rfl ⟨by rw [← g2]; rfl, rfl⟩
        · rw [if_neg hE] at g2
          repeat' (first | refine zck ?_ | refine zcp (by kernel_rfl) ?_ | refine zcm ?_ | (refine zap rfl ?_; first | refine reg_slice2 rfl rfl (by omega) ?_ | refine zan rfl ?_ | refine zah [0, 0] (contains_spec w0 _ cap es e nb j (by omega) hl) rfl rfl rfl sub_nil rfl ?_) | refine zch ?_)
          refine run_cond rfl (fun hE => ?_) (fun hE => ?_)
          · rw [if_pos hE] at g2
            repeat' (first | refine zck ?_ | refine zcp (by kernel_rfl) ?_ | (refine zap rfl ?_; first | refine zan rfl ?_) | refine zch ?_)
            refine run_take [0] rfl ?_
            exact qret1 (fun _ _ h => h) rfl ⟨by rw [← g2]; rfl, rfl⟩
          · rw [if_neg hE] at g2
            repeat' (first | refine zcp (by kernel_rfl) ?_ | refine zcm ?_ | refine zcn ?_ | (refine zap rfl ?_; first | refine zan rfl ?_ | refine zau rfl rfl (by omega) ?_) | refine zch ?_)
            refine run_take [0] rfl ?_
            exact cut_end ⟨rfl, j + 1, ⟨rfl, rfl, rfl, int_eq (by omega), trivial⟩, ⟨rfl, by omega, by rw [← g2]⟩, by omega⟩
      · repeat' (first | refine zck ?_ | refine zcp (by kernel_rfl) ?_ | (refine zap rfl ?_; first | refine zbh rfl rfl (by omega) ?_) | refine zch ?_ | refine zcj rfl ?_)
        refine cut_exit rfl rfl ?_
        repeat' (first | refine zck ?_ | refine zcp (by kernel_rfl) ?_ | (refine zap rfl ?_; first | refine zan rfl ?_) | refine zch ?_)
        rw [List.drop_of_length_le (by omega)] at g2
        exact ret_tmp1 rfl ⟨by rw [← g2]; rfl, rfl⟩
end Go.Proofs.YtloekplbhknepaaGreat

namespace Go.Proofs.YtloekplbhknepaaGreat
open Go.Vc
open Go.Sort (swp bitsLen xorNextN xorNext breakStep breakPatterns)
section
variable {P : Program} {w0 : World} {n : Nat} {sh : Shared} {Q : Exit → Env → List Deferred → List Asn → Prop} {k : List Item} {ρ : Env} {df : List Deferred} {Γ : List Asn}
variable {ops : Array Oper} {l : List (Fl × Nat × Oper)} {b : Fl} {i d : Nat} {ty : TypeId} {pos : String} {aft : Array Edge}
theorem reg_sub_u64 {x y : Operand} {t yt : TypeId} {X : Nat} (Y : Nat) {z : Int} (hx : ev ρ x = .int .u64 (X : Int)) (hy : ev ρ y = .int .u64 z) (hz : z = Y) (hb : Y ≤ X) (hX : X < 18446744073709551616)
    (h : Reg P w0 n sh Q ops l k (ρ.set d (.int .u64 ((X - Y : Nat) : Int))) df Γ) : Reg P w0 n sh Q ops ((b, i, ⟨some d, .binOp .sub t x y yt, ty, pos, aft, none⟩) :: l) k ρ df Γ :=
  reg_sub hx hy (by rw [IntKind.wrap_u64, hz, show ((X : Int) - (Y : Int)) % 18446744073709551616 = ((X - Y : Nat) : Int) by omega]; exact h)
end
def brk (a len m idx : Nat) (D : Array Int) : Nat → UInt64 × Array Int
  | 0 => (UInt64.ofNat len, D)
  | k + 1 => breakStep a len m (brk a len m idx D k) (idx + k)
theorem brk_eq {a b : Nat} {D : Array Int} (h : 8 ≤ b - a) : breakPatterns D a b = (brk a (b - a) (1 <<< bitsLen (b - a)) (a + ((b - a) / 4) * 2 - 1) D 3).2 := by
  unfold breakPatterns
  simp only [ge_iff_le, h, if_true]
  rfl
theorem brk_step {a len m idx k : Nat} {D : Array Int} {r : UInt64} {d : Array Int} {o : Nat} (hk : brk a len m idx D k = (r, d)) (ho : o = if xorNextN r.toNat &&& (m - 1) ≥ len then (xorNextN r.toNat &&& (m - 1)) - len else xorNextN r.toNat &&& (m - 1)) :
    brk a len m idx D (k + 1) = (xorNext r, swp d (idx + k) (a + o)) := by
  rw [brk, hk, breakStep, ho]
  simp only [Go.Sort.xorNext_toNat]
set_option maxHeartbeats 4000000
theorem break_spec (w0 : World) (bb N cap : Nat) (D : Array Int) (a b : Nat) (hN : N < 65536) (hab : a + 8 ≤ b) (hb : b ≤ N) :
    Vc.Fn PP w0 [] 125 [.slice (some ⟨bb, 0, none⟩) N cap, .int .i64 a, .int .i64 b] [Dat 28 bb N cap D]
      fun v Γ => v = .tuple #[] ∧ ∃ rb x, Γ = [Dat 28 bb N cap (breakPatterns D a b), pt rb (.cells (List.toArray [.int .u64 (x : Int)]) 194 (0, 0))] := by
  refine fn_of_run en125 fn125 rfl rfl rfl ?_
  have hlen : (UInt64.ofNat (b - a)).toNat = b - a := by rw [UInt64.toNat_ofNat']; exact Nat.mod_eq_of_lt (by omega)
  obtain ⟨m, hm⟩ : ∃ m, m = 1 <<< bitsLen (b - a) := ⟨_, rfl⟩
  have hm1 : m ≤ 2 * (b - a) := by rw [hm, Nat.one_shiftLeft]; exact Go.Sort.two_pow_bitsLen_le (by omega)
  have hm0 : 0 < m := by rw [hm, Nat.one_shiftLeft]; exact Nat.pow_pos (by decide)
  have hP := npow_spec w0 (b - a) (by omega)
  rw [← hm] at hP
  have hsub : ((b : Int) - (a : Int)) = ((b - a : Nat) : Int) := by omega
  repeat (first | refine zck ?_ | refine zcl ?_ | refine zcm ?_ | refine zcn ?_)
  first | refine zcp (by kernel_rfl) ?_ | refine zcq PP_mixed (by kernel_rfl) (by kernel_rfl) ?_
  repeat' (refine zap rfl ?_; first | refine zan rfl ?_ | refine zan rfl ?_ | refine zav rfl rfl (by omega) ?_)
  all_goals refine zch ?_
  all_goals repeat (first | refine zck ?_ | refine zcl ?_ | refine zcm ?_ | refine zcn ?_)
  repeat (first | refine zck ?_ | refine zcl ?_ | refine zcm ?_ | refine zcn ?_)
  first | refine zcp (by kernel_rfl) ?_ | refine zcq PP_mixed (by kernel_rfl) (by kernel_rfl) ?_
  repeat' (refine zap rfl ?_; first | refine zan rfl ?_ | refine zbm rfl rfl (by omega) ?_)
  all_goals refine zch ?_
  all_goals repeat (first | refine zck ?_ | refine zcl ?_ | refine zcm ?_ | refine zcn ?_)
  refine zci rfl ?_
  repeat refine zck ?_
  rw [hsub]
  repeat (first | refine zck ?_ | refine zcl ?_ | refine zcm ?_ | refine zcn ?_)
  first | refine zcp (by kernel_rfl) ?_ | refine zcq PP_mixed (by kernel_rfl) (by kernel_rfl) ?_
  repeat' (refine zap rfl ?_; first | refine reg_convN (((b - a : Nat) : Int)) rfl (by rw [IntKind.wrap_u64]; omega) ?_ | refine zan rfl ?_ | refine zae 1 rfl rfl rfl rfl rfl rfl rfl ?_ | refine zar (fun nb => ?_))
  all_goals refine zch ?_
  all_goals repeat (first | refine zck ?_ | refine zcl ?_ | refine zcm ?_ | refine zcn ?_)
  repeat (first | refine zck ?_ | refine zcl ?_ | refine zcm ?_ | refine zcn ?_)
  first | refine zcp (by kernel_rfl) ?_ | refine zcq PP_mixed (by kernel_rfl) (by kernel_rfl) ?_
  repeat' (refine zap rfl ?_; first | refine zan rfl ?_ | refine zan rfl ?_ | refine zah [] hP rfl rfl rfl sub_nil rfl ?_)
  all_goals refine zch ?_
  all_goals repeat (first | refine zck ?_ | refine zcl ?_ | refine zcm ?_ | refine zcn ?_)
  repeat (first | refine zck ?_ | refine zcl ?_ | refine zcm ?_ | refine zcn ?_)
  first | refine zcp (by kernel_rfl) ?_ | refine zcq PP_mixed (by kernel_rfl) (by kernel_rfl) ?_
  repeat' (refine zap rfl ?_; first | refine zan rfl ?_ | refine zan rfl ?_ | refine zau rfl rfl (by omega) ?_ | refine zav rfl rfl (by omega) ?_ | refine zaw rfl rfl (by omega) ?_ | refine zax rfl rfl (by omega) ?_)
  all_goals refine zch ?_
  all_goals repeat (refine zck ?_)
  refine zcl ?_
  refine run_loop (S := Nat × UInt64 × Array Int) (fun s => [(0, .slice (some ⟨bb, 0, none⟩) N cap), (1, .int .i64 a), (6, .int .i64 ((b - a : Nat) : Int)), (7, .pointer (some ⟨nb, 0, none⟩)), (8, .int .u64 (m : Int)), (9, .int .i64 ((a + ((b - a) / 4) * 2 - 1 + s.1 : Nat) : Int))])
    (fun s Γ => Γ = [Dat 28 bb N cap s.2.2, pt nb (.cells (List.toArray [.int .u64 (s.2.1.toNat : Int)]) 194 (0, 0))] ∧ s.1 ≤ 3 ∧ brk a (b - a) m (a + ((b - a) / 4) * 2 - 1) D s.1 = s.2)
    (fun s => 3 - s.1) (0, UInt64.ofNat (b - a), D) ⟨rfl, rfl, rfl, rfl, rfl, int_eq (by first | rfl | omega | (dsimp only; omega)), trivial⟩ ⟨by rw [hlen]; rfl, by dsimp only; omega, rfl⟩ ?_
  rintro ⟨k, r, d⟩ Γ junk ⟨rfl, h1, h2⟩
  dsimp only at h1 h2 ⊢
  by_cases hk : k < 3
  · have hrl := Go.Sort.xorNextN_lt r.toNat r.toNat_lt
    have hN1 := next_spec w0 nb r.toNat r.toNat_lt
    obtain ⟨R, hR⟩ : ∃ R, R = xorNextN r.toNat := ⟨_, rfl⟩
    rw [← hR] at hN1 hrl
    obtain ⟨o, ho⟩ : ∃ o, o = R &&& (m - 1) := ⟨_, rfl⟩
    have hol : o ≤ m - 1 := by rw [ho]; exact Nat.and_le_right
    have hxr : (xorNext r).toNat = R := by rw [hR]; exact Go.Sort.xorNext_toNat r
    repeat (first | refine zck ?_ | refine zcl ?_ | refine zcm ?_ | refine zcn ?_)
    first | refine zcp (by kernel_rfl) ?_ | refine run_drawR PP_mixed (by kernel_rfl) (by kernel_rfl) ?_
    repeat' (refine zap rfl ?_; first | refine zan rfl ?_ | refine zbi rfl rfl (by omega) ?_ | refine zau rfl rfl (by omega) ?_ | refine zaw rfl rfl (by omega) ?_ | refine zax rfl rfl (by omega) ?_)
    all_goals refine zch ?_
    all_goals repeat (first | refine zck ?_ | refine zcl ?_ | refine zcm ?_ | refine zcn ?_)
    refine zci rfl ?_
    repeat (first | refine zcm ?_ | refine zcl ?_ | refine zck ?_)
    repeat (first | refine zck ?_ | refine zcl ?_ | refine zcm ?_ | refine zcn ?_)
    first | refine zcp (by kernel_rfl) ?_ | refine zcq PP_mixed (by kernel_rfl) (by kernel_rfl) ?_
    repeat' (refine zap rfl ?_; first | refine reg_sub_u64 1 rfl rfl rfl (by omega) (by omega) ?_ | refine reg_and_u64 rfl rfl (by omega) (by omega) ?_ | refine zan rfl ?_ | refine zan rfl ?_ | refine zah [1] hN1 rfl rfl rfl sub_nil rfl ?_ | refine zbz rfl (by omega) ?_)
    all_goals refine zch ?_
    all_goals repeat (first | refine zck ?_ | refine zcl ?_ | refine zcm ?_ | refine zcn ?_)
    rw [← ho]
    refine run_perm (List.Perm.swap _ _ _) ?_
    by_cases hq : b - a ≤ o
    · repeat' (first | refine zcp (by kernel_rfl) ?_ | refine run_drawR PP_mixed (by kernel_rfl) (by kernel_rfl) ?_ | refine zcn ?_ | (refine zap rfl ?_; first | refine reg_load_d 0 rfl rfl (by omega) ?_ | refine reg_store_d 0 rfl rfl rfl (by omega) rfl ?_ | refine zan rfl ?_ | refine zan rfl ?_ | refine zbm rfl rfl (by omega) ?_ | refine zau rfl rfl (by omega) ?_ | refine zav rfl rfl (by omega) ?_ | refine zas rfl rfl (by omega) ?_) | refine zch ?_ | refine zci rfl ?_)
      have e1 : ((a + (b - a) / 4 * 2 - 1 + k : Nat) : Int).toNat = a + (b - a) / 4 * 2 - 1 + k := by omega
      have e2 : ((a : Int) + ((o : Int) - ((b - a : Nat) : Int))).toNat = a + (o - (b - a)) := by omega
      refine cut_end ⟨rfl, (k + 1, xorNext r, swp d (a + (b - a) / 4 * 2 - 1 + k) (a + (o - (b - a)))), ⟨rfl, rfl, rfl, rfl, rfl, int_eq (by first | rfl | omega | (dsimp only; omega)), trivial⟩, ⟨?_, by dsimp only; omega, ?_⟩, by dsimp only; omega⟩
      · rw [hxr, e1, e2]; rfl
      · exact brk_step h2 (by rw [← hR, ← ho, if_pos hq])
    · repeat' (first | refine zcp (by kernel_rfl) ?_ | refine run_drawR PP_mixed (by kernel_rfl) (by kernel_rfl) ?_ | refine zcm ?_ | refine zcn ?_ | (refine zap rfl ?_; first | refine reg_load_d 0 rfl rfl (by omega) ?_ | refine reg_store_d 0 rfl rfl rfl (by omega) rfl ?_ | refine zan rfl ?_ | refine zan rfl ?_ | refine zbn rfl rfl (by omega) ?_ | refine zau rfl rfl (by omega) ?_ | refine zas rfl rfl (by omega) ?_) | refine zch ?_ | refine zcj rfl ?_)
      have e1 : ((a + (b - a) / 4 * 2 - 1 + k : Nat) : Int).toNat = a + (b - a) / 4 * 2 - 1 + k := by omega
      have e2 : ((a : Int) + (o : Int)).toNat = a + o := by omega
      refine cut_end ⟨rfl, (k + 1, xorNext r, swp d (a + (b - a) / 4 * 2 - 1 + k) (a + o)), ⟨rfl, rfl, rfl, rfl, rfl, int_eq (by first | rfl | omega | (dsimp only; omega)), trivial⟩, ⟨?_, by dsimp only; omega, ?_⟩, by dsimp only; omega⟩
      · rw [hxr, e1, e2]; rfl
      · exact brk_step h2 (by rw [← hR, ← ho, if_neg hq])
  · repeat' (first | refine zck ?_ | refine zcp (by kernel_rfl) ?_ | (refine zap rfl ?_; first | refine zan rfl ?_ | refine zbj rfl rfl (by omega) ?_ | refine zau rfl rfl (by omega) ?_ | refine zaw rfl rfl (by omega) ?_ | refine zax rfl rfl (by omega) ?_) | refine zch ?_ | refine zcj rfl ?_)
    refine cut_exit rfl rfl ?_
    repeat' (first | refine zck ?_ | (refine zap rfl ?_; first | refine zan rfl ?_) | refine zch ?_)
    have hk3 : k = 3 := by omega
    subst hk3
    refine end_tmp0 rfl ⟨rfl, nb, r.toNat, ?_⟩
    rw [brk_eq (by omega), ← hm, h2]
end Go.Proofs.YtloekplbhknepaaGreat

namespace Go.Proofs.YtloekplbhknepaaGreat
open Go.Vc
open Go.Sort (ltInt swp bitsLen Hint insertionSort heapSort breakPatterns choosePivot reverseRange partialInsertionSort partitionEqual partition pdq)
theorem fn_drop {P : Program} {w0 : World} {sh : Shared} {f : FuncId} {args : List Value} {Γ Γ1 : List Asn} {R : Value → List Asn → Prop} {v : Value} (h : Vc.Fn P w0 sh f args Γ R) (hR : ∀ v' Γ', R v' Γ' → v' = v ∧ ∃ Γr, Γ' = Γ1 ++ Γr) :
    FnE P w0 sh f args Γ v Γ1 :=
  ⟨h.enters, fun hF w hsh hst => (h.calls hF w hsh hst).mono (by
    rintro e w' ⟨v', Γ', he, hr, hst'⟩
    obtain ⟨rfl, Γr, rfl⟩ := hR _ _ hr
    exact ⟨_, Γ1, he, ⟨rfl, rfl⟩, hst'.left⟩)⟩
theorem choose_specE (w0 : World) (bb N cap : Nat) (D : Array Int) (a b : Nat) (hN : N ≤ 1152921504606846975) (hab : a < b) (hb : b ≤ N) :
    FnE PP w0 [] 126 [.slice (some ⟨bb, 0, none⟩) N cap, .int .i64 a, .int .i64 b] [Dat 28 bb N cap D]
      (.tuple #[.int .i64 ((choosePivot ltInt D a b).1 : Nat), .int .i64 (hintI (choosePivot ltInt D a b).2)]) [Dat 28 bb N cap D] :=
  fn_drop (choose_spec w0 bb N cap D a b hN hab hb) (by rintro v Γ ⟨h1, sw, s, h2⟩; exact ⟨h1, [Swp sw s], h2⟩)
theorem break_specE (w0 : World) (bb N cap : Nat) (D : Array Int) (a b : Nat) (hN : N < 65536) (hab : a + 8 ≤ b) (hb : b ≤ N) :
    FnE PP w0 [] 125 [.slice (some ⟨bb, 0, none⟩) N cap, .int .i64 a, .int .i64 b] [Dat 28 bb N cap D]
      (.tuple #[]) [Dat 28 bb N cap (breakPatterns D a b)] :=
  fn_drop (break_spec w0 bb N cap D a b hN hab hb) (by rintro v Γ ⟨h1, rb, x, h2⟩; exact ⟨h1, [_], h2⟩)
theorem hintI_two {h : Hint} : hintI h = 2 ↔ h = .decreasing := by cases h <;> simp [hintI]
theorem hintI_one {h : Hint} : hintI h = 1 ↔ h = .increasing := by cases h <;> simp [hintI]
theorem pdq_small {d : Array Int} {a b limit : Nat} {wb wp : Bool} (h : b - a ≤ 12) : pdq ltInt d a b limit wb wp = insertionSort ltInt d a b := by
  rw [pdq, if_pos h]
theorem pdq_heap {d : Array Int} {a b : Nat} {wb wp : Bool} (h : ¬ b - a ≤ 12) : pdq ltInt d a b 0 wb wp = heapSort ltInt d a b := by
  rw [pdq, if_neg h, if_pos rfl]
theorem pdq_unf {d d1 d2 : Array Int} {a b limit lim pv : Nat} {wb wp : Bool} {c : Nat × Hint} {hint : Hint} {pi : Array Int × Bool} (h12 : ¬ b - a ≤ 12) (h0 : limit ≠ 0)
    (hd1 : d1 = if !wb then breakPatterns d a b else d) (hlim : lim = if !wb then limit - 1 else limit) (hc : c = choosePivot ltInt d1 a b) (hd2 : d2 = if c.2 = .decreasing then reverseRange d1 a b else d1)
    (hpv : pv = if c.2 = .decreasing then (b - 1) - (c.1 - a) else c.1) (hh : hint = if c.2 = .decreasing then .increasing else c.2) (hpi : pi = if wb && wp && hint = .increasing then partialInsertionSort ltInt d2 a b else (d2, false)) :
    pdq ltInt d a b limit wb wp = if pi.2 then pi.1 else
      if a > 0 && !ltInt pi.1[a - 1]! pi.1[pv]! then
        match partitionEqual ltInt pi.1 a b pv with
        | (mid, d4) => if _h : a < mid ∧ mid ≤ b then pdq ltInt d4 mid b lim wb wp else d4
      else
        match partition ltInt pi.1 a b pv with
        | (mid, ap, d4) =>
          if _h : a ≤ mid ∧ mid < b then
            if mid - a < b - mid then pdq ltInt (pdq ltInt d4 a mid lim true true) (mid + 1) b lim (decide (mid - a ≥ (b - a) / 8)) ap
            else pdq ltInt (pdq ltInt d4 (mid + 1) b lim true true) a mid lim (decide (b - mid ≥ (b - a) / 8)) ap
          else d4 := by
  subst hd1; subst hlim; subst hc; subst hd2; subst hpv; subst hh; subst hpi
  rw [pdq]
  simp only [h12, h0, if_false]
theorem parteq_range {d : Array Int} {a b pv : Nat} (h1 : a ≤ pv) (h2 : pv < b) (hb : b ≤ d.size) : a < (partitionEqual ltInt d a b pv).1 ∧ (partitionEqual ltInt d a b pv).1 ≤ b := by
  have hb0 : b ≤ (swp d a pv).size := by rw [Go.Sort.size_swp]; exact hb
  obtain ⟨r1, r2, _⟩ := Go.Sort.partEqLoop_spec ltInt a b _ (a + 1) (b - 1) (swp d a pv) (Nat.le_refl _) (Nat.lt_succ_self a) (by omega) (by omega) hb0 (fun t h1 h2 => by omega) (fun t h1 h2 => by omega)
  exact ⟨r1, r2⟩
theorem part_range {d : Array Int} {a b pv : Nat} (h1 : a ≤ pv) (h2 : pv < b) (hb : b ≤ d.size) : a ≤ (partition ltInt d a b pv).1 ∧ (partition ltInt d a b pv).1 < b := by
  obtain ⟨r1, r2, _⟩ := Go.Sort.partition_holds ltInt Go.Sort.swo_ltInt d a b pv h1 h2 hb
  exact ⟨r1, r2⟩
end Go.Proofs.YtloekplbhknepaaGreat

namespace Go.Proofs.YtloekplbhknepaaGreat
open Go.Vc
open Go.Sort (ltInt swp bitsLen Hint insertionSort heapSort breakPatterns choosePivot reverseRange partialInsertionSort partitionEqual partition pdq)
def PdqAt (w0 : World) (bb N cap a b limit : Nat) (D : Array Int) : Prop :=
  FnE PP w0 [] 107 [.slice (some ⟨bb, 0, none⟩) N cap, .int .i64 a, .int .i64 b, .int .i64 limit] [Dat 28 bb N cap D] (.tuple #[]) [Dat 28 bb N cap (pdq ltInt D a b limit true true)]
set_option maxHeartbeats 4000000
theorem pdq_spec (w0 : World) (bb N cap : Nat) (hN : N < 65536) : ∀ (m a b limit : Nat) (D : Array Int), b - a ≤ m → a ≤ b → b ≤ N → limit ≤ 1000 → D.size = N → PdqAt w0 bb N cap a b limit D := by
  intro m
  induction m with
  | zero =>
    intro a b limit D hm hab hb hl hD
    unfold PdqAt
    refine fn_of_run en107 fn107 rfl rfl rfl ?_
    repeat' (first | refine zck ?_ | refine zcp (by kernel_rfl) ?_ | refine zcl ?_ | (refine zap rfl ?_; first | refine zan rfl ?_) | refine zch ?_)
    refine run_loop1 ?_
    repeat' (first | refine zck ?_ | refine zcp (by kernel_rfl) ?_ | refine zcl ?_ | (refine zap rfl ?_; first | refine zan rfl ?_ | refine zan rfl ?_ | refine zah [0] (ins_spec w0 bb N cap D a b (by omega) hab hb hD) rfl rfl rfl sub_nil rfl ?_ | refine zbi rfl rfl (by omega) ?_ | refine zav rfl rfl (by omega) ?_) | refine zch ?_ | refine zci rfl ?_)
    rw [pdq_small (by omega)]
    exact qret0 (fun _ _ h => h) rfl ⟨rfl, rfl⟩
  | succ m ih =>
    intro a b limit D hm hab hb hl hD
    unfold PdqAt
    refine fn_of_run en107 fn107 rfl rfl rfl ?_
    repeat' (first | refine zck ?_ | refine zcp (by kernel_rfl) ?_ | refine zcl ?_ | (refine zap rfl ?_; first | refine zan rfl ?_) | refine zch ?_)
    refine run_loop (S := Nat × Nat × Nat × Bool × Bool × Array Int) (fun s => [(0, .slice (some ⟨bb, 0, none⟩) N cap), (1, .int .i64 s.1), (2, .int .i64 s.2.1), (3, .int .i64 s.2.2.1), (8, .bool s.2.2.2.1), (9, .bool s.2.2.2.2.1)])
      (fun s Γ => Γ = [Dat 28 bb N cap s.2.2.2.2.2] ∧ s.2.1 - s.1 ≤ m + 1 ∧ s.1 ≤ s.2.1 ∧ s.2.1 ≤ N ∧ s.2.2.1 ≤ 1000 ∧ s.2.2.2.2.2.size = N ∧ pdq ltInt s.2.2.2.2.2 s.1 s.2.1 s.2.2.1 s.2.2.2.1 s.2.2.2.2.1 = pdq ltInt D a b limit true true)
      (fun s => s.2.1 - s.1) (a, b, limit, true, true, D) ⟨rfl, rfl, rfl, rfl, rfl, rfl, trivial⟩ ⟨rfl, hm, hab, hb, hl, hD, rfl⟩ ?_
    generalize pdq ltInt D a b limit true true = RR
    clear hD hl hb hab hm D a b limit
    rintro ⟨a, b, limit, wb, wp, D⟩ Γ junk ⟨rfl, hm, hab, hb, hl, hD, hR⟩
    dsimp only at hm hab hb hl hD hR ⊢
    by_cases h12 : b - a ≤ 12
    · repeat' (first | refine zck ?_ | refine zcp (by kernel_rfl) ?_ | refine zcl ?_ | (refine zap rfl ?_; first | refine zan rfl ?_ | refine zan rfl ?_ | refine zah [0] (ins_spec w0 bb N cap D a b (by omega) hab hb hD) rfl rfl rfl sub_nil rfl ?_ | refine zbi rfl rfl (by omega) ?_ | refine zav rfl rfl (by omega) ?_) | refine zch ?_ | refine zci rfl ?_)
      rw [← hR, pdq_small h12]
      exact qret0 (fun _ _ h => h) rfl ⟨rfl, rfl⟩
    · by_cases h0 : limit = 0
      · subst h0
        repeat' (first | refine zck ?_ | refine zcp (by kernel_rfl) ?_ | refine zcm ?_ | refine zcl ?_ | (refine zap rfl ?_; first | refine zan rfl ?_ | refine zan rfl ?_ | refine zah [0] (heap_spec w0 bb N cap D a b (by omega) (by omega) hb hD) rfl rfl rfl sub_nil rfl ?_ | refine zbc rfl rfl (by omega) ?_ | refine zbj rfl rfl (by omega) ?_ | refine zav rfl rfl (by omega) ?_) | refine zch ?_ | refine zci rfl ?_ | refine zcj rfl ?_)
        rw [← hR, pdq_heap h12]
        exact qret0 (fun _ _ h => h) rfl ⟨rfl, rfl⟩
      · obtain ⟨d1, hd1⟩ : ∃ d1, d1 = if !wb then breakPatterns D a b else D := ⟨_, rfl⟩
        obtain ⟨lim, hlim⟩ : ∃ lim, lim = if !wb then limit - 1 else limit := ⟨_, rfl⟩
        have hlim1 : lim ≤ 1000 := by rw [hlim]; split <;> omega
        obtain ⟨c, hc⟩ : ∃ c, c = choosePivot ltInt d1 a b := ⟨_, rfl⟩
        have hcr : a ≤ c.1 ∧ c.1 < b := by rw [hc]; exact Go.Sort.choosePivot_holds ltInt d1 a b (by omega)
        obtain ⟨d2, hd2⟩ : ∃ d2, d2 = if c.2 = .decreasing then reverseRange d1 a b else d1 := ⟨_, rfl⟩
        obtain ⟨pv, hpv⟩ : ∃ pv, pv = if c.2 = .decreasing then (b - 1) - (c.1 - a) else c.1 := ⟨_, rfl⟩
        have hpr : a ≤ pv ∧ pv < b := by rw [hpv]; split <;> omega
        obtain ⟨hint, hh⟩ : ∃ hint, hint = if c.2 = .decreasing then .increasing else c.2 := ⟨_, rfl⟩
        obtain ⟨pi, hpi⟩ : ∃ pi, pi = if wb && wp && hint = .increasing then partialInsertionSort ltInt d2 a b else (d2, false) := ⟨_, rfl⟩
        rw [pdq_unf h12 h0 hd1 hlim hc hd2 hpv hh hpi] at hR
        repeat (first | refine zck ?_ | refine zcl ?_ | refine zcm ?_ | refine zcn ?_)
        first | refine zcp (by kernel_rfl) ?_ | refine zcq PP_mixed (by kernel_rfl) (by kernel_rfl) ?_
        repeat' (refine zap rfl ?_; first | refine zan rfl ?_ | refine zan rfl ?_ | refine zav rfl rfl (by omega) ?_)
        all_goals refine zch ?_
        all_goals repeat (first | refine zck ?_ | refine zcl ?_ | refine zcm ?_ | refine zcn ?_)
        repeat (first | refine zck ?_ | refine zcl ?_ | refine zcm ?_ | refine zcn ?_)
        first | refine zcp (by kernel_rfl) ?_ | refine zcq PP_mixed (by kernel_rfl) (by kernel_rfl) ?_
        repeat' (refine zap rfl ?_; first | refine zan rfl ?_ | refine zbj rfl rfl (by omega) ?_)
        all_goals refine zch ?_
        all_goals repeat (first | refine zck ?_ | refine zcl ?_ | refine zcm ?_ | refine zcn ?_)
        refine zcj rfl ?_
        refine zcm ?_
        repeat (first | refine zck ?_ | refine zcl ?_ | refine zcm ?_ | refine zcn ?_)
        first | refine zcp (by kernel_rfl) ?_ | refine zcq PP_mixed (by kernel_rfl) (by kernel_rfl) ?_
        repeat' (refine zap rfl ?_; first | refine zan rfl ?_ | refine zbd rfl rfl (by omega) ?_)
        all_goals refine zch ?_
        all_goals repeat (first | refine zck ?_ | refine zcl ?_ | refine zcm ?_ | refine zcn ?_)
        refine zcj rfl ?_
        refine zcm ?_
        repeat (first | refine zck ?_ | refine zcl ?_ | refine zcm ?_ | refine zcn ?_)
        first | refine zcp (by kernel_rfl) ?_ | refine zcq PP_mixed (by kernel_rfl) (by kernel_rfl) ?_
        repeat' (refine zap rfl ?_; first | refine zan rfl ?_ | refine zbx rfl ?_)
        all_goals refine zch ?_
        all_goals repeat (first | refine zck ?_ | refine zcl ?_ | refine zcm ?_ | refine zcn ?_)
        refine run_bind_eq (l' := [(0, .slice (some ⟨bb, 0, none⟩) N cap), (1, .int .i64 a), (2, .int .i64 b), (3, .int .i64 lim), (8, .bool wb), (9, .bool wp), (10, .int .i64 ((b : Int) - (a : Int)))]) (Γ' := [Dat 28 bb N cap d1]) ?_ (fun junk => ?_)
        · cases wb with
          | false =>
            simp only [Bool.not_false, if_true] at hd1 hlim
            repeat' (first | refine zck ?_ | refine zcp (by kernel_rfl) ?_ | (refine zap rfl ?_; first | refine zan rfl ?_ | refine zan rfl ?_ | refine zah [0] (break_specE w0 bb N cap D a b hN (by omega) hb) rfl rfl rfl sub_nil rfl ?_ | refine zav rfl rfl (by omega) ?_) | refine zch ?_ | refine zci rfl ?_)
            refine cut_end ⟨rfl, ⟨rfl, rfl, rfl, int_eq (by omega), rfl, rfl, rfl, trivial⟩, by rw [hd1]; rfl⟩
          | true =>
            simp only [Bool.not_true, Bool.false_eq_true, if_false] at hd1 hlim
            repeat' (first | refine zcm ?_ | (refine zap rfl ?_; first | refine zaj rfl ?_ | refine zak rfl ?_ | refine zal rfl ?_ | refine zam rfl rfl (fun _ => ?_) (fun _ => ?_)) | refine zcj rfl ?_)
            refine cut_end ⟨rfl, ⟨rfl, rfl, rfl, int_eq (by omega), rfl, rfl, rfl, trivial⟩, by rw [hd1]⟩
        refine run_dat 0 rfl (fun hs1 => ?_)
        have hC := choose_specE w0 bb N cap d1 a b (by omega) (by omega) hb
        rw [← hc] at hC
        repeat (first | refine zck ?_ | refine zcl ?_ | refine zcm ?_ | refine zcn ?_)
        first | refine zcp (by kernel_rfl) ?_ | refine zcq PP_mixed (by kernel_rfl) (by kernel_rfl) ?_
        repeat' (refine zap rfl ?_; first | refine zan rfl ?_ | refine zan rfl ?_ | refine zah [0] hC rfl rfl rfl sub_nil rfl ?_ | refine zan rfl ?_)
        all_goals refine zch ?_
        all_goals repeat (first | refine zck ?_ | refine zcl ?_ | refine zcm ?_ | refine zcn ?_)
        repeat (first | refine zck ?_ | refine zcl ?_ | refine zcm ?_ | refine zcn ?_)
        first | refine zcp (by kernel_rfl) ?_ | refine zcq PP_mixed (by kernel_rfl) (by kernel_rfl) ?_
        repeat' (refine zap rfl ?_; first | refine zan rfl ?_ | refine zbo rfl rfl ?_)
        all_goals refine zch ?_
        all_goals repeat (first | refine zck ?_ | refine zcl ?_ | refine zcm ?_ | refine zcn ?_)
        refine run_bind_eq (l' := [(0, .slice (some ⟨bb, 0, none⟩) N cap), (1, .int .i64 a), (2, .int .i64 b), (3, .int .i64 lim), (8, .bool wb), (9, .bool wp), (10, .int .i64 ((b : Int) - (a : Int))), (11, .int .i64 pv), (12, .int .i64 (hintI hint))]) (Γ' := [Dat 28 bb N cap d2]) ?_ (fun junk => ?_)
        · refine run_cond rfl (fun hE => ?_) (fun hE => ?_)
          · have hE := hintI_two.1 hE
            rw [if_pos hE] at hd2 hpv hh
            repeat' (first | refine zck ?_ | refine zcp (by kernel_rfl) ?_ | (refine zap rfl ?_; first | refine zan rfl ?_ | refine zan rfl ?_ | refine zah [0] (rev_spec w0 bb N cap d1 a b (by omega) (by omega) hb hs1) rfl rfl rfl sub_nil rfl ?_ | refine zav rfl rfl (by omega) ?_) | refine zch ?_)
            refine cut_end ⟨rfl, ⟨rfl, rfl, rfl, rfl, rfl, rfl, rfl, int_eq (by omega), by rw [hh]; rfl, trivial⟩, by rw [hd2]; rfl⟩
          · have hE : ¬ c.2 = .decreasing := fun h => hE (hintI_two.2 h)
            rw [if_neg hE] at hd2 hpv hh
            repeat' (first | refine zcm ?_ | (refine zap rfl ?_; first | refine zaj rfl ?_ | refine zak rfl ?_ | refine zal rfl ?_ | refine zam rfl rfl (fun _ => ?_) (fun _ => ?_)) | refine zch ?_)
            refine cut_end ⟨rfl, ⟨rfl, rfl, rfl, rfl, rfl, rfl, rfl, int_eq (by omega), by rw [hh]; rfl, trivial⟩, by rw [hd2]; rfl⟩
        refine run_dat 0 rfl (fun hs2 => ?_)
        have hP := partial_spec w0 bb N cap d2 a b (by omega) (by omega) hb
        by_cases hp2 : pi.2 = true
        · rw [if_pos hp2] at hR
          have hcnd : (wb && wp && decide (hint = .increasing)) = true := by
            cases hq : (wb && wp && decide (hint = .increasing)) with
            | true => rfl
            | false => rw [hq] at hpi; simp at hpi; rw [hpi] at hp2; cases hp2
          rw [if_pos hcnd] at hpi
          rw [← hpi, hp2] at hP
          simp only [Bool.and_eq_true, decide_eq_true_eq] at hcnd
          obtain ⟨⟨rfl, rfl⟩, rfl⟩ := hcnd
          repeat' (first | refine zck ?_ | refine zcp (by kernel_rfl) ?_ | (refine zap rfl ?_; first | refine zaj rfl ?_ | refine zan rfl ?_ | refine zah [0] hP rfl rfl rfl sub_nil rfl ?_ | refine zbo rfl rfl ?_ | refine zbu rfl ?_) | refine zch ?_ | refine zci rfl ?_)
          rw [← hR]
          exact qret0 (fun _ _ h => h) rfl ⟨rfl, rfl⟩
        · have hp2 : pi.2 = false := by simpa using hp2
          rw [if_neg (by rw [hp2]; exact Bool.false_ne_true)] at hR
          repeat refine zck ?_
          refine run_bind_eq (l' := [(0, .slice (some ⟨bb, 0, none⟩) N cap), (1, .int .i64 a), (2, .int .i64 b), (3, .int .i64 lim), (8, .bool wb), (9, .bool wp), (10, .int .i64 ((b : Int) - (a : Int))), (11, .int .i64 pv), (68, .bool (wb && wp && decide (hint = .increasing)))]) (Γ' := [Dat 28 bb N cap d2]) ?_ (fun junk => ?_)
          · cases wb with
            | false =>
              repeat' (first | refine zcp (by kernel_rfl) ?_ | (refine zap rfl ?_; first | refine zak rfl ?_ | refine zan rfl ?_ | refine zbv rfl ?_) | refine zch ?_)
              refine cut_end ⟨rfl, ⟨rfl, rfl, rfl, rfl, rfl, rfl, rfl, rfl, rfl, trivial⟩, rfl⟩
            | true =>
              cases wp with
              | false =>
                repeat' (first | refine zcp (by kernel_rfl) ?_ | (refine zap rfl ?_; first | refine zaj rfl ?_ | refine zak rfl ?_ | refine zan rfl ?_ | refine zbu rfl ?_ | refine zbv rfl ?_) | refine zch ?_)
                refine cut_end ⟨rfl, ⟨rfl, rfl, rfl, rfl, rfl, rfl, rfl, rfl, rfl, trivial⟩, rfl⟩
              | true =>
                repeat' (first | refine zcp (by kernel_rfl) ?_ | (refine zap rfl ?_; first | refine zaj rfl ?_ | refine zan rfl ?_ | refine zbo rfl rfl ?_ | refine zbu rfl ?_) | refine zch ?_)
                refine cut_end ⟨rfl, ⟨rfl, rfl, rfl, rfl, rfl, rfl, rfl, rfl, congrArg Value.bool (decide_eq_decide.2 hintI_one), trivial⟩, rfl⟩
          repeat refine zck ?_
          refine run_bind_eq (l' := [(0, .slice (some ⟨bb, 0, none⟩) N cap), (1, .int .i64 a), (2, .int .i64 b), (3, .int .i64 lim), (8, .bool wb), (9, .bool wp), (10, .int .i64 ((b : Int) - (a : Int))), (11, .int .i64 pv)]) (Γ' := [Dat 28 bb N cap pi.1]) ?_ (fun junk => ?_)
          · refine run_condV rfl (fun hE => ?_) (fun hE => ?_)
            · rw [if_pos hE] at hpi
              rw [← hpi, hp2] at hP
              repeat' (first | refine zck ?_ | refine zcp (by kernel_rfl) ?_ | refine zcm ?_ | (refine zap rfl ?_; first | refine zan rfl ?_ | refine zah [0] hP rfl rfl rfl sub_nil rfl ?_) | refine zch ?_ | refine zcj rfl ?_)
              refine cut_end ⟨rfl, ⟨rfl, rfl, rfl, rfl, rfl, rfl, rfl, rfl, trivial⟩, rfl⟩
            · rw [if_neg (by rw [hE]; exact Bool.false_ne_true)] at hpi
              repeat' (first | refine zcm ?_ | (refine zap rfl ?_; first | refine zaj rfl ?_ | refine zak rfl ?_ | refine zal rfl ?_ | refine zam rfl rfl (fun _ => ?_) (fun _ => ?_)) | refine zch ?_)
              refine cut_end ⟨rfl, ⟨rfl, rfl, rfl, rfl, rfl, rfl, rfl, rfl, trivial⟩, by rw [hpi]⟩
          refine run_dat 0 rfl (fun hs3 => ?_)
          obtain ⟨d3, hd3⟩ : ∃ d3, d3 = pi.1 := ⟨_, rfl⟩
          rw [← hd3] at hs3 hR ⊢
          clear hP hpi hp2 hd3 hC hc hcr hd1 hd2 hpv hh hs1 hs2
          repeat refine zck ?_
          refine run_bind_eq (l' := [(0, .slice (some ⟨bb, 0, none⟩) N cap), (1, .int .i64 a), (2, .int .i64 b), (3, .int .i64 lim), (8, .bool wb), (9, .bool wp), (10, .int .i64 ((b : Int) - (a : Int))), (11, .int .i64 pv), (87, .bool (decide (a > 0) && !ltInt d3[a - 1]! d3[pv]!))]) (Γ' := [Dat 28 bb N cap d3]) ?_ (fun junk => ?_)
          · by_cases ha0 : 0 < a
            · have e1 : ((a : Int) - 1).toNat = a - 1 := by omega
              have e2 : ((pv : Nat) : Int).toNat = pv := by omega
              repeat' (first | refine run_drawR PP_mixed (by kernel_rfl) (by kernel_rfl) ?_ | (refine zap rfl ?_; first | refine reg_load_d 0 rfl rfl (by omega) ?_ | refine zaj rfl ?_ | refine zan rfl ?_ | refine zah [] (less_spec w0 _ _) rfl rfl rfl sub_nil rfl ?_ | refine zbk rfl rfl (by omega) ?_ | refine zav rfl rfl (by omega) ?_ | refine zby rfl ?_ | refine zbu rfl ?_ | refine zas rfl rfl (by omega) ?_) | refine zch ?_)
              refine cut_end ⟨rfl, ⟨rfl, rfl, rfl, rfl, rfl, rfl, rfl, rfl, ?_, trivial⟩, rfl⟩
              rw [decide_eq_true ha0, Bool.true_and]
              show Value.bool (decide (¬ d3[((a : Int) - 1).toNat]! < d3[((pv : Nat) : Int).toNat]!)) = _
              rw [e1, e2]; simp only [ltInt, decide_not]
            · repeat' (first | refine run_drawR PP_mixed (by kernel_rfl) (by kernel_rfl) ?_ | (refine zap rfl ?_; first | refine zak rfl ?_ | refine zan rfl ?_ | refine zbl rfl rfl (by omega) ?_ | refine zbv rfl ?_) | refine zch ?_)
              refine cut_end ⟨rfl, ⟨rfl, rfl, rfl, rfl, rfl, rfl, rfl, rfl, ?_, trivial⟩, rfl⟩
              rw [decide_eq_false ha0]; rfl
          repeat refine zck ?_
          refine run_condV rfl (fun hE => ?_) (fun hE => ?_)
          · rw [if_pos hE] at hR
            have hq := parteq_range (d := d3) hpr.1 hpr.2 (by omega)
            have hS := partEq_spec w0 bb N cap d3 a b pv (by omega) hpr.1 hpr.2 hb hs3
            generalize partitionEqual ltInt d3 a b pv = q at hR hq hS
            obtain ⟨mid, d4⟩ := q
            dsimp only at hR hq hS
            rw [dif_pos hq] at hR
            repeat' (first | refine zck ?_ | refine zcp (by kernel_rfl) ?_ | refine zcs rfl ?_ | (refine zap rfl ?_; first | refine zan rfl ?_ | refine zan rfl ?_ | refine zah [0] hS rfl rfl rfl sub_nil rfl ?_) | refine zch ?_)
            refine run_dat 0 rfl (fun hs4 => ?_)
            refine cut_end ⟨rfl, (mid, b, lim, wb, wp, d4), ⟨rfl, rfl, rfl, rfl, rfl, rfl, trivial⟩, ⟨rfl, by dsimp only; omega, by dsimp only; omega, hb, hlim1, hs4, hR⟩, by dsimp only; omega⟩
          · rw [if_neg (by rw [hE]; exact Bool.false_ne_true)] at hR
            have hq := part_range (d := d3) hpr.1 hpr.2 (by omega)
            have hS := part_spec w0 bb N cap d3 a b pv (by omega) hpr.1 hpr.2 hb hs3
            generalize partition ltInt d3 a b pv = q at hR hq hS
            obtain ⟨mid, ap, d4⟩ := q
            dsimp only at hR hq hS
            rw [dif_pos hq] at hR
            refine zcm ?_
            repeat (first | refine zck ?_ | refine zcl ?_ | refine zcm ?_ | refine zcn ?_)
            first | refine zcp (by kernel_rfl) ?_ | refine zcq PP_mixed (by kernel_rfl) (by kernel_rfl) ?_
            repeat' (refine zap rfl ?_; first | refine zan rfl ?_ | refine zan rfl ?_ | refine zah [0] hS rfl rfl rfl sub_nil rfl ?_ | refine zan rfl ?_)
            all_goals refine zch ?_
            all_goals repeat (first | refine zck ?_ | refine zcl ?_ | refine zcm ?_ | refine zcn ?_)
            refine run_dat 0 rfl (fun hs4 => ?_)
            by_cases hlt : mid - a < b - mid
            · rw [if_pos hlt] at hR
              have hI := ih a mid lim d4 (by omega) hq.1 (by omega) hlim1 hs4
              unfold PdqAt at hI
              repeat' (first | refine zck ?_ | refine zcp (by kernel_rfl) ?_ | refine zcn ?_ | (refine zap rfl ?_; first | refine zan rfl ?_ | refine zan rfl ?_ | refine zah [0] hI rfl rfl rfl sub_nil rfl ?_ | refine zbg rfl rfl (by omega) ?_ | refine zau rfl rfl (by omega) ?_ | refine zav rfl rfl (by omega) ?_ | refine zbt rfl rfl ?_ | refine zax rfl rfl (by omega) ?_) | refine zch ?_ | refine zci rfl ?_)
              refine run_dat 0 rfl (fun hs5 => ?_)
              refine cut_end ⟨rfl, (mid + 1, b, lim, decide (mid - a ≥ (b - a) / 8), ap, pdq ltInt d4 a mid lim true true), ⟨rfl, int_eq (by first | rfl | omega | (dsimp only; omega)), rfl, rfl, congrArg Value.bool (decide_eq_decide.2 (by omega)), rfl, trivial⟩, ⟨rfl, by dsimp only; omega, by dsimp only; omega, hb, hlim1, hs5, hR⟩, by dsimp only; omega⟩
            · rw [if_neg hlt] at hR
              have hI := ih (mid + 1) b lim d4 (by omega) (by omega) hb hlim1 hs4
              unfold PdqAt at hI
              repeat' (first | refine zck ?_ | refine zcp (by kernel_rfl) ?_ | refine zcn ?_ | (refine zap rfl ?_; first | refine zan rfl ?_ | refine zan rfl ?_ | refine zah [0] hI rfl rfl rfl sub_nil rfl ?_ | refine zbh rfl rfl (by omega) ?_ | refine zau rfl rfl (by omega) ?_ | refine zav rfl rfl (by omega) ?_ | refine zbt rfl rfl ?_ | refine zax rfl rfl (by omega) ?_) | refine zch ?_ | refine zcj rfl ?_)
              refine run_dat 0 rfl (fun hs5 => ?_)
              refine cut_end ⟨rfl, (a, mid, lim, decide (b - mid ≥ (b - a) / 8), ap, pdq ltInt d4 (mid + 1) b lim true true), ⟨rfl, rfl, int_eq (by first | rfl | omega | (dsimp only; omega)), rfl, congrArg Value.bool (decide_eq_decide.2 (by omega)), rfl, trivial⟩, ⟨rfl, by dsimp only; omega, hq.1, by dsimp only; omega, hlim1, hs5, hR⟩, by dsimp only; omega⟩
end Go.Proofs.YtloekplbhknepaaGreat

namespace Go.Proofs.YtloekplbhknepaaGreat
open Go.Vc
open Go.Sort (ltInt bitsLen pdq)
theorem ins_nil (w0 : World) (v : Value) : FnE PP w0 [] 123 [v, .int .i64 0, .int .i64 0] [] (.tuple #[]) [] := by
  refine fn_of_run en123 fn123 rfl rfl rfl ?_
  repeat' (first | refine zck ?_ | refine zcp (by kernel_rfl) ?_ | refine zcl ?_ | (refine zap rfl ?_; first | refine zan rfl ?_ | refine zan rfl ?_ | refine zau rfl rfl (by omega) ?_) | refine zch ?_)
  refine run_loop1 ?_
  repeat' (first | refine zck ?_ | refine zcp (by kernel_rfl) ?_ | refine zcs rfl ?_ | (refine zap rfl ?_; first | refine zan rfl ?_ | refine zbh rfl rfl (by omega) ?_) | refine zch ?_ | refine zcj rfl ?_)
  exact end_tmp0 rfl ⟨rfl, rfl⟩
theorem pdq_nil (w0 : World) (v : Value) (lim : Int) : FnE PP w0 [] 107 [v, .int .i64 0, .int .i64 0, .int .i64 lim] [] (.tuple #[]) [] := by
  refine fn_of_run en107 fn107 rfl rfl rfl ?_
  repeat' (first | refine zck ?_ | refine zcp (by kernel_rfl) ?_ | refine zcl ?_ | (refine zap rfl ?_; first | refine zan rfl ?_) | refine zch ?_)
  refine run_loop1 ?_
  repeat' (first | refine zck ?_ | refine zcp (by kernel_rfl) ?_ | refine zcl ?_ | (refine zap rfl ?_; first | refine zan rfl ?_ | refine zan rfl ?_ | refine zah [] (ins_nil w0 _) rfl rfl rfl sub_nil rfl ?_ | refine zbi rfl rfl (by omega) ?_ | refine zav rfl rfl (by omega) ?_) | refine zch ?_ | refine zci rfl ?_)
  exact qret0 (fun _ _ h => h) rfl ⟨rfl, rfl⟩
theorem sort_spec (w0 : World) (a : Option Addr) (N cap : Nat) (l : List Int) (hN : N < 65536) (hl : l.length = N) :
    FnE PP w0 [] 83 [.slice a N cap] [SlA 28 1 a N cap (intsV l)] (.tuple #[]) [SlA 28 1 a N cap (intsV (l.mergeSort fun x y => decide (x ≤ y)))] := by
  refine fn_of_run en83 fn83 rfl rfl rfl ?_
  refine run_sl_cases 0 rfl ?_ ?_
  · intro h1 h2 h3 h4
    subst h1; subst h2; subst h3
    have hl0 : l = [] := List.eq_nil_of_length_eq_zero hl
    subst hl0
    repeat' (first | refine zck ?_ | refine zcp (by kernel_rfl) ?_ | (refine zap rfl ?_; first | refine reg_convN ((0 : Nat) : Int) rfl (by decide) ?_ | refine zan rfl ?_ | refine zan rfl ?_ | refine zah [] (blen_spec w0 0 (by omega)) rfl rfl rfl sub_nil rfl ?_ | refine zah [] (pdq_nil w0 _ _) rfl rfl rfl sub_nil rfl ?_ | refine zce rfl ?_) | refine zch ?_)
    exact end_tmp0 rfl ⟨rfl, by rw [List.mergeSort_nil]; rfl⟩
  · intro nb h1 h2 h3
    subst h1
    have hb := (Go.Sort.bitsLen_le_iff N 16).2 (by omega)
    have hP := pdq_spec w0 nb N cap hN N 0 N (bitsLen N) l.toArray (by omega) (by omega) (Nat.le_refl _) (by omega) (by simpa using hl)
    unfold PdqAt at hP
    have hS := Go.Sort.sortInt l
    unfold Go.Sort.sort at hS
    rw [List.size_toArray, hl] at hS
    unfold Dat at hP
    rw [hS] at hP
    repeat' (first | refine zck ?_ | refine zcp (by kernel_rfl) ?_ | (refine zap rfl ?_; first | refine reg_convN ((N : Nat) : Int) rfl (by rw [IntKind.wrap_u64]; omega) ?_ | refine zan rfl ?_ | refine zan rfl ?_ | refine zah [] (blen_spec w0 N hN) rfl rfl rfl sub_nil rfl ?_ | refine zah [0] hP rfl rfl rfl sub_nil rfl ?_ | refine zce rfl ?_) | refine zch ?_)
    exact end_tmp0 rfl ⟨rfl, rfl⟩
end Go.Proofs.YtloekplbhknepaaGreat

namespace Sim
open Go Go.Vc
def wk : Nat → List Int → List (Int × Wd)
  | _, [] => []
  | i, v :: r => ((i : Int), ⟨v, 0, 0⟩) :: wk (i + 1) r
theorem wk_snoc : ∀ (i : Nat) (l : List Int) (v : Int), wk i (l ++ [v]) = wk i l ++ [(((i + l.length : Nat) : Int), ⟨v, 0, 0⟩)]
  | i, [], v => by simp [wk]
  | i, u :: r, v => by
    simp only [List.cons_append, wk, wk_snoc (i + 1) r v, List.length_cons]
    congr 4; omega
theorem lookW_wk : ∀ (i : Nat) (l : List Int) (a : Int), lookW (wk i l) a = if (i : Int) ≤ a ∧ a < i + l.length then (l[(a - i).toNat]?).map fun v => ⟨v, 0, 0⟩ else none
  | i, [], a => by simp [wk, lookW]
  | i, v :: r, a => by
    simp only [wk, lookW, lookW_wk (i + 1) r a]
    by_cases h : (i : Int) = a
    · subst h; simp; omega
    · rw [if_neg h]
      by_cases h2 : (i : Int) ≤ a ∧ a < i + ((v :: r).length : Nat)
      · rw [if_pos h2, if_pos (by simp only [List.length_cons] at h2; omega)]
        obtain ⟨k, hk⟩ : ∃ k : Nat, a = i + 1 + k := ⟨(a - i - 1).toNat, by omega⟩
        subst hk
        have e1 : ((i : Int) + 1 + k - ((i + 1 : Nat) : Int)).toNat = k := by omega
        have e2 : ((i : Int) + 1 + k - (i : Int)).toNat = k + 1 := by omega
        rw [e1, e2]; rfl
      · rw [if_neg h2, if_neg (by simp only [List.length_cons] at h2; omega)]
def insW : List (Int × Wd) → Int → Wd → List (Int × Wd)
  | [], x, u => [(x, u)]
  | (a, w) :: r, x, u => if a = x then (a, u) :: r else (a, w) :: insW r x u
theorem ins_knM : ∀ (l : List (Int × Wd)) (a : Int) (w : Wd), ins (knM l) a (wordV w) = knM (insW l a w)
  | [], _, _ => rfl
  | (b, u) :: r, a, w => by
    simp only [knM, ins, insW]
    by_cases h : b = a <;> simp [h, knM, ins_knM r a w]
theorem look_insW : ∀ (l : List (Int × Wd)) (a x : Int) (w : Wd), lookW (insW l a w) x = if a = x then some w else lookW l x
  | [], a, x, w => by simp [insW, lookW]
  | (b, u) :: r, a, x, w => by
    simp only [insW]
    by_cases h : b = a
    · subst h; by_cases h2 : b = x <;> simp [lookW, h2]
    · simp only [if_neg h, lookW, look_insW r a x w]
      by_cases h2 : b = x
      · subst h2; simp [Ne.symm h]
      · simp [h2]
theorem insW_none : ∀ (l : List (Int × Wd)) (a : Int) (w : Wd), lookW l a = none → insW l a w = l ++ [(a, w)]
  | [], _, _, _ => rfl
  | (b, u) :: r, a, w, h => by
    simp only [lookW] at h
    split at h
    · cases h
    · rename_i hb
      simp [insW, hb, insW_none r a w h]
theorem knM_length : ∀ (l : List (Int × Wd)), (knM l).length = l.length
  | [] => rfl
  | (_, _) :: r => by simp [knM, knM_length r]
theorem knM_get : ∀ (l : List (Int × Wd)) (q : Nat), (knM l)[q]? = (l[q]?).map fun p => (p.1, wordV p.2)
  | [], q => by simp [knM]
  | (a, w) :: r, 0 => by simp [knM]
  | (a, w) :: r, q + 1 => by simp only [knM, List.getElem?_cons_succ, knM_get r q]
theorem lookW_mem : ∀ (l : List (Int × Wd)) (a : Int) (w : Wd), lookW l a = some w → ∃ q : Nat, l[q]? = some (a, w)
  | [], a, w, h => by simp [lookW] at h
  | (b, u) :: r, a, w, h => by
    simp only [lookW] at h
    split at h
    · rename_i hb; subst hb; cases h; exact ⟨0, rfl⟩
    · obtain ⟨q, hq⟩ := lookW_mem r a w h; exact ⟨q + 1, hq⟩
end Sim

namespace Go.Proofs.YtloekplbhknepaaGreat
open Go.Vc Sim
set_option maxHeartbeats 4000000

def cnt : Nat → List Nat → Nat
  | 0, _ => 0
  | n + 1, s => cnt n s + if n ∈ s then 0 else 1
theorem cnt_more (q : Nat) (s : List Nat) (hs : q ∉ s) : ∀ n, (n ≤ q → cnt n (s ++ [q]) = cnt n s) ∧ (q < n → cnt n (s ++ [q]) + 1 = cnt n s)
  | 0 => ⟨fun _ => rfl, fun h => absurd h (by omega)⟩
  | n + 1 => by
    obtain ⟨h1, h2⟩ := cnt_more q s hs n
    simp only [cnt]
    refine ⟨fun h => ?_, fun h => ?_⟩
    · have hne : n ≠ q := by omega
      rw [h1 (by omega)]; simp [hne]
    · by_cases e : q = n
      · subst e; rw [h1 (Nat.le_refl _)]; simp [hs]
      · have := h2 (by omega)
        have e2 : (n ∈ s ++ [q]) = (n ∈ s) := by simp; intro h; omega
        simp only [e2]; omega

end Go.Proofs.YtloekplbhknepaaGreat

namespace Go.Proofs.YtloekplbhknepaaGreat
open Go.Vc Sim
theorem rdM_len : ∀ l : List Int, (rdM l).length = l.length
  | [] => rfl
  | _ :: l => by simp only [rdM, List.length_cons, rdM_len l]
theorem rdM_at : ∀ (l : List Int) (q : Nat), (rdM l)[q]? = (l[q]?).map fun a => (a, .bool true)
  | [], q => by simp [rdM]
  | a :: l, 0 => by simp [rdM]
  | a :: l, q + 1 => by simp only [rdM, List.getElem?_cons_succ, rdM_at l q]
def leI : Int → Int → Bool := fun x y => decide (x ≤ y)
theorem msort_perm {l l' : List Int} (h : l.Perm l') : l.mergeSort leI = l'.mergeSort leI := by
  have tr : ∀ a b c : Int, leI a b = true → leI b c = true → leI a c = true := fun a b c h1 h2 => by simp only [leI, decide_eq_true_eq] at *; omega
  have to : ∀ a b : Int, (leI a b || leI b a) = true := fun a b => by simp only [leI, Bool.or_eq_true, decide_eq_true_eq]; omega
  refine List.Perm.eq_of_pairwise (le := fun a b => leI a b = true) (fun a b _ _ h1 h2 => ?_) (List.pairwise_mergeSort tr to l) (List.pairwise_mergeSort tr to l') (((List.mergeSort_perm l leI).trans h).trans (List.mergeSort_perm l' leI).symm)
  simp only [leI, decide_eq_true_eq] at h1 h2
  omega
theorem seen_perm (l : List Int) (seen : List Nat) (out : List Int) (hnd : seen.Nodup) (hlt : ∀ q ∈ seen, q < l.length) (hall : ∀ q, q < l.length → q ∈ seen) (ho : out = seen.map fun q => l[q]!) : out.Perm l := by
  have h1 : seen.Perm (List.range l.length) := by
    rw [List.perm_ext_iff_of_nodup hnd List.nodup_range]
    intro q; rw [List.mem_range]; exact ⟨hlt q, hall q⟩
  have h2 : (List.range l.length).map (fun q => l[q]!) = l := by
    apply List.ext_getElem?
    intro i
    by_cases hi : i < l.length
    · simp [hi]
    · simp [hi]
  rw [ho]
  exact (h1.map _).trans (List.Perm.of_eq h2)
theorem cnt_nil : ∀ n, cnt n [] = n
  | 0 => rfl
  | n + 1 => by simp [cnt, cnt_nil n]
theorem cnt_all (s : List Nat) : ∀ n, (∀ q, q < n → q ∈ s) → cnt n s = 0
  | 0, _ => rfl
  | n + 1, h => by simp only [cnt, cnt_all s n (fun q hq => h q (by omega)), if_pos (h n (by omega))]
theorem rds_spec (w0 : World) (p : Nat) (s : Sp) (hlen : s.rd.length < 65536) :
    Vc.Fn PP w0 [] 80 [spP p] [SpaceA p s] fun v Γ => ∃ a cap, v = .slice a s.rd.length cap ∧ Γ = [SpaceA p s, SlA 28 1 a s.rd.length cap (intsV (s.rd.mergeSort leI))] := by
  refine fn_of_run en80 fn80 rfl rfl rfl ?_
  refine run_open [0] (SpaceParts p s) rfl (fun _ h => h) ?_
  rintro ⟨bk, br, sa, sc⟩
  refine run_nilslice 28 1 ?_
  repeat (first | refine zck ?_ | refine zcl ?_ | refine zcm ?_ | refine zcn ?_)
  first | refine zcp (by kernel_rfl) ?_ | refine zcq PP_mixed (by kernel_rfl) (by kernel_rfl) ?_
  repeat' (refine zap rfl ?_; first | refine zan rfl ?_)
  all_goals refine zch ?_
  all_goals repeat (first | refine zck ?_ | refine zcl ?_ | refine zcm ?_ | refine zcn ?_)
  repeat (first | refine zck ?_ | refine zcl ?_ | refine zcm ?_ | refine zcn ?_)
  first | refine zcp (by kernel_rfl) ?_ | refine zcq PP_mixed (by kernel_rfl) (by kernel_rfl) ?_
  repeat' (refine zap rfl ?_; first | refine zan rfl ?_)
  all_goals refine zch ?_
  all_goals repeat (first | refine zck ?_ | refine zcl ?_ | refine zcm ?_ | refine zcn ?_)
  repeat (first | refine zck ?_ | refine zcl ?_ | refine zcm ?_ | refine zcn ?_)
  first | refine zcp (by kernel_rfl) ?_ | refine zcq PP_mixed (by kernel_rfl) (by kernel_rfl) ?_
  repeat' (refine zap rfl ?_; first | refine zan rfl ?_ | refine zaz rfl rfl ?_)
  all_goals refine zch ?_
  all_goals repeat (first | refine zck ?_ | refine zcl ?_ | refine zcm ?_ | refine zcn ?_)
  refine zcj rfl ?_
  refine zcm ?_
  repeat (first | refine zck ?_ | refine zcl ?_ | refine zcm ?_ | refine zcn ?_)
  first | refine zcp (by kernel_rfl) ?_ | refine zcq PP_mixed (by kernel_rfl) (by kernel_rfl) ?_
  repeat' (refine zap rfl ?_; first | refine reg_range 2 rfl rfl (fun nb => ?_) | refine zan rfl ?_ | refine zab 0 rfl rfl rfl ?_ | refine zao rfl ?_ | refine zan rfl ?_)
  all_goals refine zch ?_
  all_goals repeat (first | refine zck ?_ | refine zcl ?_ | refine zcm ?_ | refine zcn ?_)
  refine run_loop (S := Option Addr × Nat × List Nat) (fun st => [(3, .slice st.1 st.2.2.length st.2.1), (12, .pointer (some ⟨nb, 0, none⟩))])
    (fun st Γ => Γ = SpaceParts p s (bk, br, sa, sc) ++ [SlA 28 1 st.1 st.2.2.length st.2.1 (intsV (st.2.2.map fun q => s.rd[q]!)), pt nb (iterI br (rdM s.rd).length st.2.2 (rdM s.rd).length)] ∧ st.2.2.Nodup ∧ (∀ q ∈ st.2.2, q < s.rd.length) ∧ cnt s.rd.length st.2.2 + st.2.2.length = s.rd.length)
    (fun st => cnt s.rd.length st.2.2) (none, 0, []) ⟨rfl, rfl, trivial⟩ ⟨rfl, List.nodup_nil, by simp, by simp [cnt_nil]⟩ ?_
  rintro ⟨a, cap, seen⟩ Γ junk ⟨rfl, h1, h2, h3⟩
  dsimp only at h1 h2 h3 ⊢
  repeat (first | refine zck ?_ | refine zcl ?_ | refine zcm ?_ | refine zcn ?_ | refine zco ?_)
  refine zcp (by kernel_rfl) ?_
  refine zap rfl ?_
  refine reg_next 5 2 rfl rfl (pt_know 2 rfl) rfl (fun _ => rfl) (fun hall => ?_) (fun q e hq hns => ?_)
  · repeat' (first | refine zck ?_ | (refine zap rfl ?_; first | refine zan rfl ?_) | refine zch ?_ | refine zcj rfl ?_)
    refine cut_exit rfl rfl ?_
    have hn : seen.length = s.rd.length := by
      rw [rdM_len] at hall
      have := cnt_all seen s.rd.length hall
      omega
    have hperm := seen_perm s.rd seen _ h1 h2 (by rw [rdM_len] at hall; exact hall) rfl
    have hS := sort_spec w0 a s.rd.length cap (seen.map fun q => s.rd[q]!) hlen (by rw [List.length_map, hn])
    rw [hn]
    repeat' (first | refine zck ?_ | refine zcp (by kernel_rfl) ?_ | (refine zap rfl ?_; first | refine zan rfl ?_ | refine zan rfl ?_ | refine zah [4] hS rfl rfl rfl sub_nil rfl ?_) | refine zch ?_)
    refine run_close (A := SpaceA p s) [1, 1, 1, 1] rfl (fun _ h => ⟨(bk, br, sa, sc), h⟩) ?_
    refine run_take [0, 0] rfl ?_
    refine ret_tmp1 rfl ⟨a, cap, rfl, ?_⟩
    rw [← msort_perm hperm]; rfl
  · rw [rdM_at] at hq
    obtain ⟨x, hx, rfl⟩ : ∃ x, s.rd[q]? = some x ∧ e = (x, .bool true) := by
      cases h : s.rd[q]? with
      | none => rw [h] at hq; cases hq
      | some x => rw [h] at hq; exact ⟨x, rfl, (Option.some.inj hq).symm⟩
    have hql := (List.getElem?_eq_some_iff.1 hx).1
    have hq3 : (rdM s.rd)[q]? = some (x, .bool true) := by rw [rdM_at, hx]; rfl
    repeat' (refine zap rfl ?_; first | refine zan rfl ?_)
    refine zch ?_
    repeat (first | refine zck ?_ | refine zcl ?_ | refine zcm ?_ | refine zcn ?_ | refine zco ?_)
    refine zci rfl ?_
    repeat (first | refine zck ?_ | refine zcl ?_ | refine zcm ?_ | refine zcn ?_ | refine zco ?_)
    repeat (first | refine zck ?_ | refine zcl ?_ | refine zcm ?_ | refine zcn ?_)
    first | refine zcp (by kernel_rfl) ?_ | refine zcq PP_mixed (by kernel_rfl) (by kernel_rfl) ?_
    repeat' (refine zap rfl ?_; first | refine reg_entry 5 rfl rfl (pt_know 2 rfl) hq3 ?_ | refine zan rfl ?_ | refine zan rfl ?_)
    all_goals refine zch ?_
    all_goals repeat (first | refine zck ?_ | refine zcl ?_ | refine zcm ?_ | refine zcn ?_)
    repeat' (first | refine zcp (by kernel_rfl) ?_ | refine zcn ?_ | (refine zap rfl ?_; first | refine reg_buildSlice rfl rfl rfl rfl rfl rfl (fun nb => ?_) | refine reg_append 4 6 rfl rfl rfl rfl rfl rfl rfl rfl (by omega) (fun _ _ => rfl) (fun a' cap' => ?_) | refine zan rfl ?_ | refine zan rfl ?_) | refine zch ?_)
    refine run_take [0, 0, 0, 0, 0, 0] rfl ?_
    have hx2 : s.rd[q]! = x := by simp [List.getElem!_eq_getElem?_getD, hx]
    have e1 : (seen ++ [q]).length = seen.length + 1 := by simp
    have e2 : intsV ((seen ++ [q]).map fun q => s.rd[q]!) = intsV (seen.map fun q => s.rd[q]!) ++ [.int .i64 x] := by simp only [intsV, List.map_append, List.map_cons, List.map_nil, hx2]
    have e3 := (cnt_more q seen hns s.rd.length).2 hql
    refine cut_end ⟨rfl, (a', cap', seen ++ [q]), ⟨by dsimp only; rw [e1]; rfl, rfl, trivial⟩, ⟨?_, ?_, ?_, by dsimp only; omega⟩, by dsimp only; omega⟩
    · dsimp only; rw [e1, e2]; rfl
    · dsimp only
      rw [List.nodup_append]
      exact ⟨h1, by simp, by intro a ha b hb; simp at hb; subst hb; intro e; subst e; exact hns ha⟩
    · intro q' hq'
      rcases List.mem_append.1 hq' with h | h
      · exact h2 q' h
      · simp at h; subst h; exact hql
end Go.Proofs.YtloekplbhknepaaGreat

namespace Go.Proofs.YtloekplbhknepaaGreat
open Go.Vc Sim
theorem ints_rd {l : List Int} {i : Nat} {x : Int} (h : l[i]? = some x) (o : Nat) (ho : o = i) : rd false 1 (intsV l) o = some (.int .i64 x) :=
  rd_one (c := (intsV l).toArray) (o := i) (by simp [intsV, h]) o ho
theorem flatE_append : ∀ a b : List En, flatE (a ++ b) = flatE a ++ flatE b
  | [], _ => rfl
  | e :: a, b => by simp only [List.cons_append, flatE, flatE_append a b, List.append_assoc]
def oldW (s : Sp) (x : Int) : Wd := match lookW s.kn x with | some w => w | none => ⟨0, 0, 0⟩
def entE (s : Sp) (x : Int) : En := ⟨x, oldW s x, (s.value x).1, (s.value x).2⟩
def esOf (s : Sp) : List En := (s.rd.mergeSort leI).map (entE s)
def Sp.entries (s : Sp) : List En × Int :=
  if s.ended = true then ([], 13) else if (esOf s).length = 0 then ([], 0) else if checkI (esOf s) ≠ 0 then ([], checkI (esOf s)) else (esOf s, 0)
set_option maxHeartbeats 4000000
theorem ents_spec (w0 : World) (p : Nat) (s : Sp) (hlen : s.rd.length < 65536) (hp : s.puts.length ≤ 1099511627776) (hk : ∀ x w, lookW s.kn x = some w → w.ref = 0) :
    Vc.Fn PP w0 [] 44 [spP p] [SpaceA p s] fun v Γ => ∃ a cap, v = .tuple #[.slice a (Sp.entries s).1.length cap, .int .i64 (Sp.entries s).2] ∧ Γ = [SpaceA p s, EnA a cap (Sp.entries s).1] := by
  refine fn_of_run en44 fn44 rfl rfl rfl ?_
  unfold Sp.entries
  repeat' (first | refine zck ?_ | refine zcp (by kernel_rfl) ?_ | (refine zap rfl ?_; first | refine zan rfl ?_ | refine zan rfl ?_ | refine zah [0] (ended_spec w0 p s) rfl rfl rfl sub_nil rfl ?_) | refine zch ?_)
  refine run_condV rfl (fun hE => ?_) (fun hE => ?_)
  · rw [if_pos hE]
    repeat' (first | refine zck ?_ | refine zcp (by kernel_rfl) ?_ | (refine zap rfl ?_; first | refine zan rfl ?_) | refine zch ?_)
    refine run_nilslice 107 6 ?_
    exact ret_tmp2 rfl ⟨none, 0, rfl, rfl⟩
  · rw [if_neg (by rw [hE]; exact Bool.false_ne_true)]
    obtain ⟨L, hL⟩ : ∃ L, L = s.rd.mergeSort leI := ⟨_, rfl⟩
    obtain ⟨es, hes⟩ : ∃ es, es = esOf s := ⟨_, rfl⟩
    have hLn : L.length = s.rd.length := by rw [hL, List.length_mergeSort]
    have hen : es.length = s.rd.length := by rw [hes, esOf, List.length_map, ← hL, hLn]
    have heL : es = L.map (entE s) := by rw [hes, esOf, hL]
    have her : ∀ e ∈ es, e.old.ref = 0 := by
      intro e he
      rw [heL] at he
      obtain ⟨x, _, rfl⟩ := List.mem_map.1 he
      show (oldW s x).ref = 0
      unfold oldW
      cases h : lookW s.kn x with
      | none => rfl
      | some w => exact hk x w h
    rw [← hes]
    refine run_nilslice 107 6 ?_
    repeat (first | refine zck ?_ | refine zcl ?_ | refine zcm ?_ | refine zcn ?_)
    first | refine zcp (by kernel_rfl) ?_ | refine zcq PP_mixed (by kernel_rfl) (by kernel_rfl) ?_
    repeat' (refine zap rfl ?_; first | refine zan rfl ?_)
    all_goals refine zch ?_
    all_goals repeat (first | refine zck ?_ | refine zcl ?_ | refine zcm ?_ | refine zcn ?_)
    have hRd := rds_spec w0 p s hlen
    rw [← hL, ← hLn] at hRd
    repeat (first | refine zck ?_ | refine zcl ?_ | refine zcm ?_ | refine zcn ?_)
    first | refine zcp (by kernel_rfl) ?_ | refine zcq PP_mixed (by kernel_rfl) (by kernel_rfl) ?_
    repeat' (refine zap rfl ?_; first | (refine zai [0] hRd rfl rfl rfl sub_nil ?_; rintro v Γ' ⟨ra, rcap, rfl, rfl⟩) | refine zan rfl ?_ | refine zce rfl ?_)
    all_goals refine zch ?_
    all_goals repeat (refine zck ?_)
    refine run_perm (Γ' := [SpaceA p s, SlA 28 1 ra L.length rcap (intsV L), EnA none 0 []]) (List.Perm.refl _) ?_
    refine run_bind_eq2 (Γ' := fun st : Option Addr × Nat => [SpaceA p s, SlA 28 1 ra L.length rcap (intsV L), EnA st.1 st.2 es]) (l' := fun st => [(0, spP p), (4, .slice st.1 es.length st.2)]) ?_ (fun st junk => ?_)
    · refine zcl ?_
      refine run_loop (S := Option Addr × Nat × Nat) (fun st => [(0, spP p), (4, .slice st.1 (es.take st.2.2).length st.2.1), (13, .slice ra L.length rcap), (14, .int .i64 L.length), (15, .int .i64 st.2.2)])
        (fun st Γ => Γ = [SpaceA p s, SlA 28 1 ra L.length rcap (intsV L), EnA st.1 st.2.1 (es.take st.2.2)] ∧ st.2.2 ≤ es.length)
        (fun st => es.length - st.2.2) (none, 0, 0) ⟨rfl, rfl, rfl, rfl, rfl, trivial⟩ ⟨rfl, by dsimp only; omega⟩ ?_
      rintro ⟨a, cap, j⟩ Γ junk ⟨rfl, g1⟩
      dsimp only at g1 ⊢
      by_cases hj : j < es.length
      · obtain ⟨x, hx⟩ : ∃ x, L[j]? = some x := ⟨_, List.getElem?_eq_getElem (by omega)⟩
        have hex : es[j]? = some (entE s x) := by rw [heL, List.getElem?_map, hx]; rfl
        have hr := ints_rd hx
        have hlt : (es.take j).length = j := by simp; omega
        refine run_sl_cases 1 rfl (fun _ h _ _ => absurd h (by omega)) ?_
        intro bb k1 k2 k3
        subst k1
        have hw : (Vc.look (knM s.kn) x).getD (.agg #[.int .i64 0, .int .u32 0, .int .u32 0]) = .agg #[.int .i64 (oldW s x).val, .int .u32 (oldW s x).ver, .int .u32 (oldW s x).ref] := by
          rw [look_knM]
          unfold oldW
          cases lookW s.kn x with
          | none => rfl
          | some w => rfl
        repeat (first | refine zck ?_ | refine zcl ?_ | refine zcm ?_ | refine zcn ?_)
        first | refine zcp (by kernel_rfl) ?_ | refine zcq PP_mixed (by kernel_rfl) (by kernel_rfl) ?_
        repeat' (refine zap rfl ?_; first | refine zbg rfl rfl (by omega) ?_)
        all_goals refine zch ?_
        all_goals repeat (first | refine zck ?_ | refine zcl ?_ | refine zcm ?_ | refine zcn ?_)
        refine zci rfl ?_
        repeat (first | refine zcm ?_ | refine zcl ?_ | refine zck ?_)
        repeat (first | refine zck ?_ | refine zcl ?_ | refine zcm ?_ | refine zcn ?_)
        first | refine zcp (by kernel_rfl) ?_ | refine zcq PP_mixed (by kernel_rfl) (by kernel_rfl) ?_
        repeat' (refine zap rfl ?_; first | refine zag 1 rfl rfl (hr _ (by omega)) (by intro h; cases h) ?_ | refine zan rfl ?_ | refine zas rfl rfl (by omega) ?_)
        all_goals refine zch ?_
        all_goals repeat (first | refine zck ?_ | refine zcl ?_ | refine zcm ?_ | refine zcn ?_)
        repeat (first | refine zck ?_ | refine zcl ?_ | refine zcm ?_ | refine zcn ?_)
        first | refine zcp (by kernel_rfl) ?_ | refine zcq PP_mixed (by kernel_rfl) (by kernel_rfl) ?_
        repeat' (refine zap rfl ?_; first | refine zan rfl ?_ | refine zan rfl ?_ | refine zah [0] (value_spec w0 p s x hp) rfl rfl rfl sub_nil rfl ?_ | refine zan rfl ?_)
        all_goals refine zch ?_
        all_goals repeat (first | refine zck ?_ | refine zcl ?_ | refine zcm ?_ | refine zcn ?_)
        refine run_open [0] (SpaceParts p s) rfl (fun _ h => h) ?_
        rintro ⟨bk, br, sa, sc⟩
        repeat (first | refine zck ?_ | refine zcl ?_ | refine zcm ?_ | refine zcn ?_)
        first | refine zcp (by kernel_rfl) ?_ | refine zcq PP_mixed (by kernel_rfl) (by kernel_rfl) ?_
        repeat' (refine zap rfl ?_; first | refine reg_lookup 1 rfl rfl rfl hw ?_ | refine zcb rfl ?_ | refine reg_buildSlice rfl rfl rfl rfl rfl rfl (fun nb => ?_) | refine reg_append 5 6 rfl rfl rfl rfl rfl rfl rfl rfl (by omega) (fun _ _ => rfl) (fun a' cap' => ?_) | refine zan rfl ?_ | refine zan rfl ?_ | refine zab 0 rfl rfl rfl ?_ | refine zao rfl ?_ | refine zan rfl ?_)
        all_goals refine zch ?_
        all_goals repeat (first | refine zck ?_ | refine zcl ?_ | refine zcm ?_ | refine zcn ?_)
        refine run_close (A := SpaceA p s) [0, 0, 0, 0] rfl (fun _ h => ⟨(bk, br, sa, sc), h⟩) ?_
        refine run_take [0, 0, 0] rfl ?_
        have et : es.take (j + 1) = es.take j ++ [entE s x] := by rw [List.take_add_one, hex]; rfl
        have e1 : (es.take (j + 1)).length = (es.take j).length + 1 := by rw [et, List.length_append]; rfl
        repeat' (first | refine zcp (by kernel_rfl) ?_ | (refine zap rfl ?_; first | refine zan rfl ?_ | refine zau rfl rfl (by omega) ?_) | refine zch ?_)
        refine cut_end ⟨rfl, (a', cap', j + 1), ⟨rfl, by dsimp only; rw [e1]; rfl, rfl, rfl, int_eq (by dsimp only; omega), trivial⟩, ⟨?_, by dsimp only; omega⟩, by dsimp only; omega⟩
        dsimp only
        unfold EnA
        rw [e1, et, flatE_append]
        rfl
      · repeat' (first | refine zck ?_ | refine zcp (by kernel_rfl) ?_ | (refine zap rfl ?_; first | refine zbh rfl rfl (by omega) ?_) | refine zch ?_ | refine zcj rfl ?_)
        refine cut_exit rfl rfl ?_
        have ht : es.take j = es := List.take_of_length_le (by omega)
        rw [ht]
        refine cut_end ⟨rfl, (a, cap), ⟨rfl, rfl, trivial⟩, rfl⟩
    · obtain ⟨a, cap⟩ := st
      dsimp only
      by_cases hn : es.length = 0
      · rw [if_pos hn]
        repeat' (first | refine zck ?_ | refine zcp (by kernel_rfl) ?_ | (refine zap rfl ?_; first | refine zan rfl ?_ | refine zan rfl ?_ | refine zce rfl ?_ | refine zbc rfl rfl (by omega) ?_) | refine zch ?_ | refine zci rfl ?_)
        refine run_nilslice 107 6 ?_
        refine run_take [0, 2] rfl ?_
        exact ret_tmp2 rfl ⟨none, 0, rfl, rfl⟩
      · rw [if_neg hn]
        repeat' (first | refine zck ?_ | refine zcp (by kernel_rfl) ?_ | refine zcm ?_ | (refine zap rfl ?_; first | refine zan rfl ?_ | refine zan rfl ?_ | refine zah [2] (echeck_spec w0 a cap es her (by omega)) rfl rfl rfl sub_nil rfl ?_ | refine zce rfl ?_ | refine zbd rfl rfl (by omega) ?_ | refine zbp rfl rfl ?_) | refine zch ?_ | refine zcj rfl ?_)
        refine run_cond rfl (fun hE => ?_) (fun hE => ?_)
        · rw [if_pos hE]
          repeat' (first | refine zck ?_ | refine zcp (by kernel_rfl) ?_ | (refine zap rfl ?_; first | refine zan rfl ?_ | refine zan rfl ?_) | refine zch ?_)
          refine run_nilslice 107 6 ?_
          refine run_take [1, 2] rfl ?_
          exact ret_tmp2 rfl ⟨none, 0, rfl, rfl⟩
        · rw [if_neg hE]
          repeat' (first | refine zck ?_ | refine zcp (by kernel_rfl) ?_ | refine zcm ?_ | (refine zap rfl ?_; first | refine zan rfl ?_ | refine zan rfl ?_) | refine zch ?_)
          refine run_take [1, 0] rfl ?_
          exact ret_tmp2 rfl ⟨a, cap, rfl, rfl⟩
end Go.Proofs.YtloekplbhknepaaGreat

namespace Sim
open Go Go.Vc
theorem wr_int1 : ∀ (l : List Int) (k : Nat) (x : Int), k < l.length → wr [Value.int .i64 x] k (intsV l) = some (intsV (l.set k x))
  | [], k, x, h => by simp at h
  | y :: l, 0, x, _ => rfl
  | y :: l, k + 1, x, h => by
    have ih := wr_int1 l k x (by simpa using h)
    simp only [intsV, List.map_cons, wr, List.set_cons_succ] at ih ⊢
    rw [ih]
def ddN (l : List Int) : Nat → List Int
  | 0 => []
  | 1 => l.take 1
  | m + 2 => if l[m + 1]? = l[m]? then ddN l (m + 1) else ddN l (m + 1) ++ (l[m + 1]?).toList
theorem ddN_le (l : List Int) : ∀ m, (ddN l m).length ≤ m
  | 0 => Nat.le_refl _
  | 1 => by simp [ddN]; omega
  | m + 2 => by
    have := ddN_le l (m + 1)
    simp only [ddN]
    split
    · omega
    · simp only [List.length_append]
      have : ((l[m + 1]?).toList).length ≤ 1 := by cases l[m + 1]? <;> simp
      omega
theorem ddN_mem (l : List Int) (x : Int) : ∀ m, x ∈ ddN l m ↔ x ∈ l.take m
  | 0 => by simp [ddN]
  | 1 => by simp [ddN]
  | m + 2 => by
    have ih := ddN_mem l x (m + 1)
    simp only [ddN]
    rw [List.take_add_one (i := m + 1), List.mem_append, ← ih]
    split
    · rename_i h
      rw [h]
      constructor
      · exact .inl
      · rintro (h2 | h2)
        · exact h2
        · rw [ih, List.take_add_one, List.mem_append]; exact .inr h2
    · rw [List.mem_append]
theorem ddN_small (l : List Int) (h : l.length < 2) : ddN l l.length = l := by
  match l, h with
  | [], _ => rfl
  | [a], _ => rfl
  | a :: b :: l, h => exact absurd h (by simp)
end Sim
namespace Go.Proofs.YtloekplbhknepaaGreat
open Go.Vc Sim
set_option maxHeartbeats 4000000
theorem compact_spec (w0 : World) (a : Option Addr) (cap : Nat) (l : List Int) (hlen : l.length ≤ 1099511627776) :
    FnE PP w0 [] 84 [.slice a l.length cap] [SlA 28 1 a l.length cap (intsV l)] (.slice a (ddN l l.length).length cap) [SlA 28 1 a (ddN l l.length).length cap (intsV (ddN l l.length))] := by
  refine fn_of_run en84 fn84 rfl rfl rfl ?_
  by_cases h2 : l.length < 2
  · repeat' (first | refine zck ?_ | refine zcp (by kernel_rfl) ?_ | (refine zap rfl ?_; first | refine zan rfl ?_ | refine zan rfl ?_ | refine zce rfl ?_ | refine zbg rfl rfl (by omega) ?_) | refine zch ?_ | refine zci rfl ?_)
    rw [ddN_small l h2]
    exact ret_tmp1 rfl ⟨rfl, rfl⟩
  refine run_sl_cases 0 rfl (fun _ h _ _ => absurd h (by omega)) ?_
  intro bb q1 q2 q3
  subst q1
  repeat (first | refine zck ?_ | refine zcl ?_ | refine zcm ?_ | refine zcn ?_)
  first | refine zcp (by kernel_rfl) ?_ | refine zcq PP_mixed (by kernel_rfl) (by kernel_rfl) ?_
  repeat' (refine zap rfl ?_; first | refine zan rfl ?_)
  all_goals refine zch ?_
  all_goals repeat (first | refine zck ?_ | refine zcl ?_ | refine zcm ?_ | refine zcn ?_)
  repeat (first | refine zck ?_ | refine zcl ?_ | refine zcm ?_ | refine zcn ?_)
  first | refine zcp (by kernel_rfl) ?_ | refine zcq PP_mixed (by kernel_rfl) (by kernel_rfl) ?_
  repeat' (refine zap rfl ?_; first | refine zan rfl ?_ | refine zce rfl ?_ | refine zbh rfl rfl (by omega) ?_)
  all_goals refine zch ?_
  all_goals repeat (first | refine zck ?_ | refine zcl ?_ | refine zcm ?_ | refine zcn ?_)
  refine zcj rfl ?_
  repeat (first | refine zck ?_ | refine zcl ?_ | refine zcm ?_ | refine zcn ?_)
  first | refine zcp (by kernel_rfl) ?_ | refine zcq PP_mixed (by kernel_rfl) (by kernel_rfl) ?_
  repeat' (refine zap rfl ?_; first | refine zan rfl ?_)
  all_goals refine zch ?_
  all_goals repeat (first | refine zck ?_ | refine zcl ?_ | refine zcm ?_ | refine zcn ?_)
  refine run_loop (S := Nat) (fun k => [(0, .slice (some ⟨bb, 0, none⟩) l.length cap), (3, .int .i64 (k : Int))])
    (fun k Γ => Γ = [SlA 28 1 (some ⟨bb, 0, none⟩) l.length cap (intsV l)] ∧ 1 ≤ k ∧ k ≤ l.length ∧ ddN l k = l.take k) (fun k => l.length - k) 1 ⟨rfl, rfl, trivial⟩ ⟨rfl, Nat.le_refl _, by omega, rfl⟩ ?_
  rintro k Γ junk ⟨rfl, k1, k2, k3⟩
  by_cases hlt : k < l.length
  · obtain ⟨x, hx⟩ : ∃ x, l[k]? = some x := ⟨_, List.getElem?_eq_getElem hlt⟩
    obtain ⟨y, hy⟩ : ∃ y, l[k - 1]? = some y := ⟨_, List.getElem?_eq_getElem (by omega)⟩
    have hrx := ints_rd hx
    have hry := ints_rd hy
    obtain ⟨k, rfl⟩ : ∃ m, k = m + 1 := ⟨k - 1, by omega⟩
    simp only [Nat.add_sub_cancel] at hy hry
    by_cases hxy : x = y
    · subst hxy
      have hdd : ddN l (k + 2) = ddN l (k + 1) := by rw [ddN, hx, hy, if_pos rfl]
      repeat (first | refine zck ?_ | refine zcl ?_ | refine zcm ?_ | refine zcn ?_)
      first | refine zcp (by kernel_rfl) ?_ | refine zcq PP_mixed (by kernel_rfl) (by kernel_rfl) ?_
      repeat' (refine zap rfl ?_; first | refine zan rfl ?_ | refine zce rfl ?_ | refine zbg rfl rfl (by omega) ?_)
      all_goals refine zch ?_
      all_goals repeat (first | refine zck ?_ | refine zcl ?_ | refine zcm ?_ | refine zcn ?_)
      refine zci rfl ?_
      repeat (first | refine zck ?_ | refine zcl ?_ | refine zcm ?_ | refine zcn ?_)
      first | refine zcp (by kernel_rfl) ?_ | refine run_drawR PP_mixed (by kernel_rfl) (by kernel_rfl) ?_
      repeat' (refine zap rfl ?_; first | refine zag 0 rfl rfl (hrx _ (by omega)) (by intro h; cases h) ?_ | refine zag 0 rfl rfl (hry _ (by omega)) (by intro h; cases h) ?_ | refine zan rfl ?_ | refine zbc rfl rfl (by omega) ?_ | refine zav rfl rfl (by omega) ?_ | refine zas rfl rfl (by omega) ?_)
      all_goals refine zch ?_
      all_goals repeat (first | refine zck ?_ | refine zcl ?_ | refine zcm ?_ | refine zcn ?_)
      refine zci rfl ?_
      repeat (first | refine zck ?_ | refine zcl ?_ | refine zcm ?_ | refine zcn ?_)
      first | refine zcp (by kernel_rfl) ?_ | refine zcq PP_mixed (by kernel_rfl) (by kernel_rfl) ?_
      repeat' (refine zap rfl ?_; first | refine reg_slice1 rfl rfl ⟨by omega, by omega⟩ (by omega) ?_ | refine zan rfl ?_ | refine zan rfl ?_)
      all_goals refine zch ?_
      all_goals repeat (first | refine zck ?_ | refine zcl ?_ | refine zcm ?_ | refine zcn ?_)
      repeat (first | refine zck ?_ | refine zcl ?_ | refine zcm ?_ | refine zcn ?_)
      first | refine zcp (by kernel_rfl) ?_ | refine zcq PP_mixed (by kernel_rfl) (by kernel_rfl) ?_
      repeat' (refine zap rfl ?_; first | refine zan rfl ?_)
      all_goals refine zch ?_
      all_goals repeat (refine zck ?_)
      refine run_bind_eq2 (σ := { C : List Int // C.length = l.length ∧ (ddN l l.length).length < l.length ∧ C.take (ddN l l.length).length = ddN l l.length })
        (l' := fun _ => [(0, .slice (some ⟨bb, 0, none⟩) l.length cap), (3, .int .i64 ((ddN l l.length).length : Int))]) (Γ' := fun st => [SlA 28 1 (some ⟨bb, 0, none⟩) l.length cap (intsV st.1)]) ?_ ?_
      · refine zcl ?_
        refine run_loop (S := Nat × List Int) (fun st => [(0, .slice (some ⟨bb, 0, none⟩) l.length cap), (3, .int .i64 ((ddN l (k + 1 + st.1)).length : Int)), (4, .slice (some ⟨bb, k + 1, none⟩) (l.length - (k + 1)) (cap - (k + 1))), (5, .int .i64 (st.1 : Int))])
          (fun st Γ => Γ = [SlA 28 1 (some ⟨bb, 0, none⟩) l.length cap (intsV st.2)] ∧ 1 ≤ st.1 ∧ k + 1 + st.1 ≤ l.length ∧ st.2.length = l.length ∧ (ddN l (k + 1 + st.1)).length < k + 1 + st.1 ∧
            st.2.take (ddN l (k + 1 + st.1)).length = ddN l (k + 1 + st.1) ∧ ∀ j, k + st.1 ≤ j → st.2[j]? = l[j]?) (fun st => l.length - st.1) (1, l)
          ⟨rfl, by dsimp only; rw [hdd, k3]; exact int_eq (by simp; omega), rfl, rfl, trivial⟩ ⟨rfl, Nat.le_refl _, by dsimp only; omega, rfl, by dsimp only; rw [hdd, k3]; simp; omega, by dsimp only; rw [hdd, k3]; simp, fun _ _ => rfl⟩ ?_
        rintro ⟨k2, C⟩ Γ junk ⟨rfl, g1, g2, g3, g4, g5, g6⟩
        dsimp only at g1 g2 g3 g4 g5 g6 ⊢
        generalize hK : (ddN l (k + 1 + k2)).length = K at g4 g5 ⊢
        have ek : k + 1 + (k2 + 1) = k + k2 + 2 := by omega
        have ek2 : k + k2 + 1 = k + 1 + k2 := by omega
        by_cases hl2 : k + 1 + k2 < l.length
        · obtain ⟨u, hu⟩ : ∃ u, l[k + k2 + 1]? = some u := ⟨_, List.getElem?_eq_getElem (by omega)⟩
          obtain ⟨v, hv⟩ : ∃ v, l[k + k2]? = some v := ⟨_, List.getElem?_eq_getElem (by omega)⟩
          have hru := ints_rd ((g6 (k + k2 + 1) (by omega)).trans hu)
          have hrv := ints_rd ((g6 (k + k2) (by omega)).trans hv)
          have hstep : ddN l (k + 1 + (k2 + 1)) = if u = v then ddN l (k + 1 + k2) else ddN l (k + 1 + k2) ++ [u] := by
            rw [ek, ddN, hu, hv, ek2]
            by_cases h : u = v
            · subst h; simp
            · simp [h]
          by_cases huv : u = v
          · subst huv
            rw [if_pos rfl] at hstep
            repeat' (first | refine zck ?_ | refine zcp (by kernel_rfl) ?_ | refine run_drawR PP_mixed (by kernel_rfl) (by kernel_rfl) ?_ | refine zcm ?_ | refine zcl ?_ | refine zcn ?_ | (refine zap rfl ?_; first | refine zag 0 rfl rfl (hru _ (by omega)) (by intro h; cases h) ?_ | refine zag 0 rfl rfl (hrv _ (by omega)) (by intro h; cases h) ?_ | refine zan rfl ?_ | refine zan rfl ?_ | refine zce rfl ?_ | refine zbf rfl rfl (by omega) ?_ | refine zbg rfl rfl (by omega) ?_ | refine zau rfl rfl (by omega) ?_ | refine zav rfl rfl (by omega) ?_ | refine zas rfl rfl (by omega) ?_) | refine zch ?_ | refine zci rfl ?_ | refine zcj rfl ?_)
            exact cut_end ⟨rfl, (k2 + 1, C), ⟨rfl, by dsimp only; rw [hstep, hK]; rfl, rfl, int_eq (by dsimp only; omega), trivial⟩, ⟨rfl, by dsimp only; omega, by dsimp only; omega, g3, by dsimp only; rw [hstep, hK]; omega, by dsimp only; rw [hstep, hK]; exact g5, fun j hj => g6 j (by dsimp only at hj; omega)⟩, by dsimp only; omega⟩
          · rw [if_neg huv] at hstep
            have hKc : K < C.length := by omega
            have hw := wr_int1 C K u hKc
            have hw2 : ∀ o, o = K → wr [Value.int .i64 u] o (intsV C) = some (intsV (C.set K u)) := fun o ho => ho ▸ hw
            repeat' (first | refine zck ?_ | refine zcp (by kernel_rfl) ?_ | refine run_drawR PP_mixed (by kernel_rfl) (by kernel_rfl) ?_ | refine zcm ?_ | refine zcl ?_ | refine zcn ?_ | (refine zap rfl ?_; first | refine zag 0 rfl rfl (hru _ (by omega)) (by intro h; cases h) ?_ | refine zag 0 rfl rfl (hrv _ (by omega)) (by intro h; cases h) ?_ | refine zaf 0 rfl rfl rfl rfl rfl (hw2 _ (by omega)) rfl ?_ | refine zan rfl ?_ | refine zan rfl ?_ | refine zce rfl ?_ | refine zbe rfl rfl (by omega) ?_ | refine zbg rfl rfl (by omega) ?_ | refine zau rfl rfl (by omega) ?_ | refine zav rfl rfl (by omega) ?_ | refine zas rfl rfl (by omega) ?_) | refine zch ?_ | refine zci rfl ?_)
            have hl3 : (ddN l (k + 1 + (k2 + 1))).length = K + 1 := by rw [hstep, List.length_append, hK]; rfl
            refine cut_end ⟨rfl, (k2 + 1, C.set K u), ⟨rfl, by dsimp only; rw [hl3]; exact int_eq (by omega), rfl, int_eq (by dsimp only; omega), trivial⟩, ⟨rfl, by dsimp only; omega, by dsimp only; omega, by simpa using g3, by dsimp only; rw [hl3]; omega, ?_, fun j hj => ?_⟩, by dsimp only; omega⟩
            · dsimp only
              rw [hl3, hstep, List.take_add_one, List.take_set_of_le (Nat.le_refl _), g5]
              simp [hKc]
            · dsimp only at hj ⊢
              rw [List.getElem?_set_ne (by omega)]
              exact g6 j (by omega)
        · repeat' (first | refine zck ?_ | refine zcp (by kernel_rfl) ?_ | (refine zap rfl ?_; first | refine zan rfl ?_ | refine zce rfl ?_ | refine zbh rfl rfl (by omega) ?_) | refine zch ?_ | refine zcj rfl ?_)
          refine cut_exit rfl rfl ?_
          have e : k + 1 + k2 = l.length := by omega
          rw [e] at g4 g5 hK
          rw [hK]
          exact cut_end ⟨rfl, ⟨C, g3, by omega, g5⟩, ⟨rfl, rfl, trivial⟩, rfl⟩
      · rintro ⟨C, c1, c2, c3⟩ junk
        dsimp only
        generalize hK : ddN l l.length = D at c2 c3 ⊢
        have hDl : C.length = l.length := c1
        repeat' (first | refine zck ?_ | refine zcp (by kernel_rfl) ?_ | (refine zap rfl ?_; first | refine reg_slice1 rfl rfl ⟨by omega, by omega⟩ (by omega) ?_ | refine reg_slice2 rfl rfl ⟨by omega, by omega⟩ ?_ | refine reg_clear 0 rfl rfl rfl rfl (by omega) rfl ?_ | refine zan rfl ?_ | refine zan rfl ?_) | refine zch ?_)
        refine run_exch 0 (SlA 28 1 (some ⟨bb, 0, none⟩) D.length cap (intsV D)) rfl (fun g hg => ?_) rfl ?_
        · have h := SlA_cutc hg (q := D.length) (by omega)
          have e : (List.take D.length (intsV C) ++ List.replicate (l.length - D.length) (Value.int .i64 0) ++ List.drop (D.length + (l.length - D.length)) (intsV C)).take (D.length * 1) = intsV D := by
            have h1 : (List.take D.length (intsV C)).length = D.length := by simp [intsV]; omega
            rw [Nat.mul_one, List.append_assoc, List.take_append_of_le_length (by omega), List.take_take, Nat.min_self]
            rw [intsV, ← List.map_take, c3]; rfl
          rw [← e]
          exact h
        exact qret1 (fun _ _ h => h) rfl ⟨rfl, rfl⟩
    · repeat' (first | refine zck ?_ | refine zcp (by kernel_rfl) ?_ | refine run_drawR PP_mixed (by kernel_rfl) (by kernel_rfl) ?_ | refine zcm ?_ | refine zcl ?_ | refine zcn ?_ | (refine zap rfl ?_; first | refine zag 0 rfl rfl (hrx _ (by omega)) (by intro h; cases h) ?_ | refine zag 0 rfl rfl (hry _ (by omega)) (by intro h; cases h) ?_ | refine zan rfl ?_ | refine zan rfl ?_ | refine zce rfl ?_ | refine zbd rfl rfl (by omega) ?_ | refine zbg rfl rfl (by omega) ?_ | refine zau rfl rfl (by omega) ?_ | refine zav rfl rfl (by omega) ?_ | refine zas rfl rfl (by omega) ?_) | refine zch ?_ | refine zci rfl ?_ | refine zcj rfl ?_)
      refine cut_end ⟨rfl, k + 2, ⟨rfl, int_eq (by omega), trivial⟩, ⟨rfl, by omega, by omega, ?_⟩, by omega⟩
      rw [ddN, hx, hy, if_neg (by intro e; exact hxy (Option.some.inj e)), k3, List.take_add_one (i := k + 1), hx]
  · repeat' (first | refine zck ?_ | refine zcp (by kernel_rfl) ?_ | (refine zap rfl ?_; first | refine zan rfl ?_ | refine zce rfl ?_ | refine zbh rfl rfl (by omega) ?_) | refine zch ?_ | refine zcj rfl ?_)
    refine cut_exit rfl rfl ?_
    repeat' (first | refine zck ?_ | refine zcp (by kernel_rfl) ?_ | (refine zap rfl ?_; first | refine zan rfl ?_ | refine zan rfl ?_) | refine zch ?_)
    have e : k = l.length := by omega
    subst e
    rw [k3, List.take_length]
    exact ret_tmp1 rfl ⟨rfl, rfl⟩
end Go.Proofs.YtloekplbhknepaaGreat

namespace Sim
open Go Go.Vc
theorem flat_two : ∀ (l : List (Int × Int)) (k : Nat) (q : Int × Int), l[k]? = some q → rd true 2 (flat l) (k * 2) = some (.agg (List.toArray [.int .i64 q.1, .int .i64 q.2]))
  | [], k, q, h => by simp at h
  | (a, v) :: l, 0, q, h => by simp at h; subst h; rfl
  | (a, v) :: l, k + 1, q, h => by
    have e : (k + 1) * 2 = k * 2 + 1 + 1 := by omega
    simp only [List.getElem?_cons_succ] at h
    have ih := flat_two l k q h
    rw [e]
    exact ih
def Sp.writes (s : Sp) : List Int := let l := (s.puts.map (·.1)).mergeSort (fun x y => decide (x ≤ y)); ddN l l.length
theorem Sp.writes_nil {s : Sp} (h : s.puts = []) : s.writes = [] := by simp [Sp.writes, h, ddN]
theorem Sp.writes_mem {s : Sp} (x : Int) : x ∈ s.writes ↔ ∃ p ∈ s.puts, p.1 = x := by
  unfold Sp.writes
  simp only
  rw [ddN_mem, List.take_length, List.mem_mergeSort, List.mem_map]
theorem Sp.writes_len0 {s : Sp} : s.writes.length = 0 ↔ s.puts = [] := by
  constructor
  · intro h
    cases hp : s.puts with
    | nil => rfl
    | cons p l =>
      have : p.1 ∈ s.writes := (Sp.writes_mem _).2 ⟨p, by rw [hp]; simp, rfl⟩
      rw [List.length_eq_zero_iff.1 h] at this
      cases this
  · intro h; rw [Sp.writes_nil h]; rfl
end Sim
namespace Go.Proofs.YtloekplbhknepaaGreat
open Go.Vc Sim
set_option maxHeartbeats 4000000
theorem writes_spec (w0 : World) (p : Nat) (s : Sp) (hlen : s.puts.length < 65536) :
    Vc.Fn PP w0 [] 45 [spP p] [SpaceA p s] fun v Γ => ∃ a cap, v = .slice a s.writes.length cap ∧ Γ = [SpaceA p s, SlA 28 1 a s.writes.length cap (intsV s.writes)] := by
  refine fn_of_run en45 fn45 rfl rfl rfl ?_
  refine run_open [0] (SpaceParts p s) rfl (fun _ h => h) ?_
  rintro ⟨bk, br, sa, sc⟩
  refine run_nilslice 28 1 ?_
  repeat (first | refine zck ?_ | refine zcl ?_ | refine zcm ?_ | refine zcn ?_)
  first | refine zcp (by kernel_rfl) ?_ | refine zcq PP_mixed (by kernel_rfl) (by kernel_rfl) ?_
  repeat' (refine zap rfl ?_; first | refine zan rfl ?_)
  all_goals refine zch ?_
  all_goals repeat (first | refine zck ?_ | refine zcl ?_ | refine zcm ?_ | refine zcn ?_)
  repeat (first | refine zck ?_ | refine zcl ?_ | refine zcm ?_ | refine zcn ?_)
  first | refine zcp (by kernel_rfl) ?_ | refine zcq PP_mixed (by kernel_rfl) (by kernel_rfl) ?_
  repeat' (refine zap rfl ?_; first | refine zan rfl ?_)
  all_goals refine zch ?_
  all_goals repeat (first | refine zck ?_ | refine zcl ?_ | refine zcm ?_ | refine zcn ?_)
  repeat (first | refine zck ?_ | refine zcl ?_ | refine zcm ?_ | refine zcn ?_)
  first | refine zcp (by kernel_rfl) ?_ | refine zcq PP_mixed (by kernel_rfl) (by kernel_rfl) ?_
  repeat' (refine zap rfl ?_; first | refine zan rfl ?_ | refine zaz rfl rfl ?_)
  all_goals refine zch ?_
  all_goals repeat (first | refine zck ?_ | refine zcl ?_ | refine zcm ?_ | refine zcn ?_)
  refine zcj rfl ?_
  refine zcm ?_
  repeat (first | refine zck ?_ | refine zcl ?_ | refine zcm ?_ | refine zcn ?_)
  first | refine zcp (by kernel_rfl) ?_ | refine zcq PP_mixed (by kernel_rfl) (by kernel_rfl) ?_
  repeat' (refine zap rfl ?_; first | refine zan rfl ?_ | refine zab 0 rfl rfl rfl ?_ | refine zce rfl ?_ | refine zao rfl ?_ | refine zan rfl ?_)
  all_goals refine zch ?_
  all_goals repeat (refine zck ?_)
  refine zcl ?_
  refine run_loop (S := Option Addr × Nat × Nat) (fun st => [(3, .slice st.1 st.2.2 st.2.1), (12, .slice sa s.puts.length sc), (13, .int .i64 (s.puts.length : Int)), (14, .int .i64 (st.2.2 : Int))])
    (fun st Γ => Γ = SpaceParts p s (bk, br, sa, sc) ++ [SlA 28 1 st.1 st.2.2 st.2.1 (intsV ((s.puts.take st.2.2).map (·.1)))] ∧ st.2.2 ≤ s.puts.length)
    (fun st => s.puts.length - st.2.2) (none, 0, 0) ⟨rfl, rfl, rfl, rfl, trivial⟩ ⟨rfl, Nat.zero_le _⟩ ?_
  rintro ⟨a, cap, i⟩ Γ junk ⟨rfl, h1⟩
  dsimp only at h1 ⊢
  by_cases hlt : i < s.puts.length
  · obtain ⟨q, hq⟩ : ∃ q, s.puts[i]? = some q := ⟨_, List.getElem?_eq_getElem hlt⟩
    have hr : ∀ o, o = i * 2 → rd true 2 (flat s.puts) o = some (.agg (List.toArray [.int .i64 q.1, .int .i64 q.2])) := fun o ho => ho ▸ flat_two _ _ _ hq
    refine run_sl_cases 3 rfl (fun _ h _ _ => absurd h (by omega)) ?_
    intro bb k1 k2 k3
    subst k1
    repeat' (first | refine zck ?_ | refine zcp (by kernel_rfl) ?_ | refine zcm ?_ | refine zcl ?_ | refine zcn ?_ | (refine zap rfl ?_; first | refine zag 3 rfl rfl (hr _ (by omega)) (by intro _; decide) ?_ | refine reg_buildSlice rfl rfl rfl rfl rfl rfl (fun nb => ?_) | refine reg_append 4 6 rfl rfl rfl rfl rfl rfl rfl rfl (by omega) (fun _ _ => rfl) (fun a' cap' => ?_) | refine zan rfl ?_ | refine zan rfl ?_ | refine zab 5 rfl rfl rfl ?_ | refine zao rfl ?_ | refine zbg rfl rfl (by omega) ?_ | refine zau rfl rfl (by omega) ?_ | refine zae 5 rfl rfl rfl rfl rfl rfl rfl ?_ | refine zas rfl rfl (by omega) ?_ | refine zar (fun nb => ?_)) | refine zch ?_ | refine zci rfl ?_)
    refine run_take [0, 0, 0, 0, 0] rfl ?_
    have et : (s.puts.take (i + 1)).map (·.1) = (s.puts.take i).map (·.1) ++ [q.1] := by rw [List.take_add_one, hq]; simp
    refine cut_end ⟨rfl, (a', cap', i + 1), ⟨rfl, rfl, rfl, int_eq (by dsimp only; omega), trivial⟩, ⟨?_, hlt⟩, by dsimp only; omega⟩
    dsimp only
    rw [et]
    simp only [intsV, List.map_append]
    rfl
  · have e : i = s.puts.length := by omega
    subst e
    rw [List.take_length]
    have hS := sort_spec w0 a s.puts.length cap (s.puts.map (·.1)) hlen (by rw [List.length_map])
    generalize hL : (s.puts.map (·.1)).mergeSort (fun x y => decide (x ≤ y)) = L at hS
    have hLl : L.length = s.puts.length := by rw [← hL, List.length_mergeSort, List.length_map]
    have hw : s.writes = ddN L L.length := by unfold Sp.writes; simp only [hL]
    have hC := compact_spec w0 a cap L (by omega)
    rw [hLl] at hC
    repeat' (first | refine zck ?_ | refine zcp (by kernel_rfl) ?_ | (refine zap rfl ?_; first | refine zbh rfl rfl (by omega) ?_) | refine zch ?_ | refine zcj rfl ?_)
    refine cut_exit rfl rfl ?_
    repeat' (first | refine zck ?_ | refine zcp (by kernel_rfl) ?_ | (refine zap rfl ?_; first | refine zan rfl ?_ | refine zan rfl ?_ | refine zah [4] hS rfl rfl rfl sub_nil rfl ?_ | refine zah [0] hC rfl rfl rfl sub_nil rfl ?_) | refine zch ?_)
    refine run_close (A := SpaceA p s) [1, 1, 1, 1] rfl (fun _ h => ⟨(bk, br, sa, sc), h⟩) ?_
    refine ret_tmp1 rfl ⟨a, cap, ?_, ?_⟩
    · rw [hw, hLl]; rfl
    · rw [hw, hLl]
end Go.Proofs.YtloekplbhknepaaGreat

namespace Sim
open Go Go.Vc
def valW (kn : List (Int × Wd)) (a : Int) : Int := match lookW kn a with | some w => w.val | none => 0
def alikeB (ka kb : List (Int × Wd)) : Bool := decide (ka.length = kb.length) && ka.all fun p => decide (valW kb p.1 = p.2.val)
theorem valW_look (kn : List (Int × Wd)) (a : Int) (zv : Value) (hz : zv = wordV ⟨0, 0, 0⟩) : (Vc.look (knM kn) a).getD zv = wordV ((lookW kn a).getD ⟨0, 0, 0⟩) := by
  rw [look_knM, hz]
  cases lookW kn a <;> rfl
theorem valW_getD (kn : List (Int × Wd)) (a : Int) : ((lookW kn a).getD ⟨0, 0, 0⟩).val = valW kn a := by unfold valW; cases lookW kn a <;> rfl
end Sim
namespace Go.Proofs.YtloekplbhknepaaGreat
open Go.Vc Sim
set_option maxHeartbeats 4000000
theorem new_sh (w0 : World) (kb : Nat) (kn : List (Int × Wd)) (hkn : ∀ (q : Nat) a w, kn[q]? = some (a, w) → lookW kn a = some w ∧ w.ref = 0) :
    Vc.Fn PP w0 [(kb, mapI (knM kn))] 43 [.map (some kb)] []
      (fun v Γ => ∃ p kn', v = spP p ∧ Γ = [SpaceA p ⟨kn', [], [], 0, false⟩] ∧ ∀ a, lookW kn' a = lookW kn a) := by
  refine fn_of_run en43 fn43 rfl rfl rfl ?_
  repeat (first | refine zck ?_ | refine zcl ?_ | refine zcm ?_ | refine zcn ?_)
  first | refine zcp (by kernel_rfl) ?_ | refine zcq PP_mixed (by kernel_rfl) (by kernel_rfl) ?_
  repeat' (refine zap rfl ?_; first | refine zan rfl ?_)
  all_goals refine zch ?_
  all_goals repeat (first | refine zck ?_ | refine zcl ?_ | refine zcm ?_ | refine zcn ?_)
  repeat (first | refine zck ?_ | refine zcl ?_ | refine zcm ?_ | refine zcn ?_)
  first | refine zcp (by kernel_rfl) ?_ | refine zcq PP_mixed (by kernel_rfl) (by kernel_rfl) ?_
  repeat' (refine zap rfl ?_; first | refine zan rfl ?_ | refine zaq (cs := [_, _, _, _, _]) rfl (fun nb => ?_) | refine zcc (fun nb => ?_) | refine zcb rfl ?_)
  all_goals refine zch ?_
  all_goals repeat (first | refine zck ?_ | refine zcl ?_ | refine zcm ?_ | refine zcn ?_)
  rename_i m1 m2
  revert nb; intro p
  refine run_share_keep [2] rfl ?_
  repeat (first | refine zck ?_ | refine zcl ?_ | refine zcm ?_ | refine zcn ?_)
  first | refine zcp (by kernel_rfl) ?_ | refine zcq PP_mixed (by kernel_rfl) (by kernel_rfl) ?_
  repeat' (refine zap rfl ?_; first | refine reg_rangeK rfl (sh_know 1 rfl) (fun nb => ?_) | refine zan rfl ?_)
  all_goals refine zch ?_
  all_goals repeat (first | refine zck ?_ | refine zcl ?_ | refine zcm ?_ | refine zcn ?_)
  revert nb; intro it
  refine run_loop (S := List (Int × Wd) × List Nat) (fun _ => [(3, spP p), (11, .pointer (some ⟨it, 0, none⟩))])
    (fun st Γ => Γ = [pt m1 (mapI (knM st.1)), pt m2 (mapI []), pt it (iterI kb (knM kn).length st.2 (knM kn).length)] ∧ (∀ q ∈ st.2, ∀ a w, kn[q]? = some (a, w) → lookW st.1 a = some w) ∧ (∀ a w, lookW st.1 a = some w → lookW kn a = some w))
    (fun st => cnt kn.length st.2) ([], []) ⟨rfl, rfl, trivial⟩ ⟨rfl, by simp, by simp [lookW]⟩ ?_
  rintro ⟨kn', seen⟩ Γ junk ⟨rfl, h1, h2⟩
  dsimp only at h1 h2 ⊢
  repeat (first | refine zck ?_ | refine zcl ?_ | refine zcm ?_ | refine zcn ?_ | refine zco ?_)
  refine zcp (by kernel_rfl) ?_
  refine zap rfl ?_
  refine reg_next 2 0 rfl rfl (sh_know 1 rfl) rfl (fun _ => rfl) (fun hall => ?_) (fun q e hq hns => ?_)
  · repeat' (first | refine zck ?_ | (refine zap rfl ?_; first | refine zan rfl ?_) | refine zch ?_ | refine zcj rfl ?_)
    refine cut_exit rfl rfl ?_
    repeat' (first | refine zck ?_ | refine zcp (by kernel_rfl) ?_ | (refine zap rfl ?_; first | refine zan rfl ?_ | refine zan rfl ?_) | refine zch ?_)
    refine run_nilslice 160 2 ?_
    refine run_ret (leaves_nil (ends_close1 (A := SpaceA p ⟨kn', [], [], 0, false⟩) [4, 0, 0, 1] rfl (fun _ h => ⟨(m1, m2, none, 0), h⟩) (ends_one rfl rfl ⟨rfl, p, kn', rfl, rfl, fun a => ?_⟩)))
    cases hk : lookW kn a with
    | none =>
      cases hk' : lookW kn' a with
      | none => rfl
      | some w => have := h2 a w hk'; rw [hk] at this; cases this
    | some w =>
      obtain ⟨q, hq⟩ := lookW_mem kn a w hk
      have hql := (List.getElem?_eq_some_iff.1 hq).1
      exact h1 q (hall q (by rw [knM_length]; exact hql)) a w hq
  · rw [knM_get] at hq
    obtain ⟨⟨a, w⟩, hq2, rfl⟩ : ∃ aw, kn[q]? = some aw ∧ e = (aw.1, wordV aw.2) := by
      cases h : kn[q]? with
      | none => rw [h] at hq; cases hq
      | some aw => rw [h] at hq; exact ⟨aw, rfl, (Option.some.inj hq).symm⟩
    obtain ⟨hk1, hk2⟩ := hkn q a w hq2
    have hql := (List.getElem?_eq_some_iff.1 hq2).1
    have hq3 : (knM kn)[q]? = some (a, wordV w) := by rw [knM_get, hq2]; rfl
    repeat' (refine zap rfl ?_; first | refine zan rfl ?_)
    refine zch ?_
    repeat (first | refine zck ?_ | refine zcl ?_ | refine zcm ?_ | refine zcn ?_ | refine zco ?_)
    refine zci rfl ?_
    repeat (first | refine zck ?_ | refine zcl ?_ | refine zcm ?_ | refine zcn ?_ | refine zco ?_)
    repeat (first | refine zck ?_ | refine zcl ?_ | refine zcm ?_ | refine zcn ?_)
    first | refine zcp (by kernel_rfl) ?_ | refine zcq PP_mixed (by kernel_rfl) (by kernel_rfl) ?_
    repeat' (refine zap rfl ?_; first | refine reg_entry 2 rfl rfl (sh_know 1 rfl) hq3 ?_ | refine zan rfl ?_ | refine zan rfl ?_ | refine zae 3 rfl rfl rfl rfl rfl rfl rfl ?_ | refine zar (fun nb => ?_))
    all_goals refine zch ?_
    all_goals repeat (first | refine zck ?_ | refine zcl ?_ | refine zcm ?_ | refine zcn ?_)
    refine run_share [3] rfl ?_
    repeat (first | refine zck ?_ | refine zcl ?_ | refine zcm ?_ | refine zcn ?_)
    first | refine zcp (by kernel_rfl) ?_ | refine zcq PP_mixed (by kernel_rfl) (by kernel_rfl) ?_
    repeat' (refine zap rfl ?_; first | refine zaa 0 rfl rfl rfl ?_ | refine zao rfl ?_ | refine zbo rfl rfl ?_)
    all_goals refine zch ?_
    all_goals repeat (first | refine zck ?_ | refine zcl ?_ | refine zcm ?_ | refine zcn ?_)
    refine zci (bool_eq (decide_eq_true hk2)) ?_
    repeat' (first | refine zcq PP_mixed (by kernel_rfl) (by kernel_rfl) ?_ | refine zcn ?_ | (refine zap rfl ?_; first | refine reg_mapUpdate 0 rfl rfl rfl rfl rfl ?_ | refine zan rfl ?_ | refine zaa 0 rfl rfl rfl ?_ | refine zaa 1 rfl rfl rfl ?_ | refine zao rfl ?_ | refine zan rfl ?_) | refine zch ?_)
    refine cut_end ⟨rfl, (insW kn' a w, seen ++ [q]), ⟨rfl, rfl, trivial⟩, ⟨?_, ?_, ?_⟩, ?_⟩
    · show _ = [pt m1 (mapI (knM (insW kn' a w))), _, _]
      rw [← ins_knM]; rfl
    · intro q' hq' a' w' h
      rw [look_insW]
      rcases List.mem_append.1 hq' with hq' | hq'
      · have := h1 q' hq' a' w' h
        by_cases e : a = a'
        · subst e; rw [if_pos rfl]
          have := (hkn q' a w' h).1
          rw [hk1] at this; exact this
        · rw [if_neg e]; exact this
      · simp at hq'; subst hq'
        rw [hq2] at h; cases h; rw [if_pos rfl]
    · intro a' w' h
      rw [look_insW] at h
      by_cases e : a = a'
      · subst e; rw [if_pos rfl] at h; cases h; exact hk1
      · rw [if_neg e] at h; exact h2 a' w' h
    · have := (cnt_more q seen hns kn.length).2 hql
      dsimp only; omega
theorem wk_rep (i : Nat) : wk 0 (List.replicate (i + 1) 0) = wk 0 (List.replicate i 0) ++ [((i : Int), ⟨0, 0, 0⟩)] := by
  rw [List.replicate_succ', wk_snoc, List.length_replicate, Nat.zero_add]
theorem fresh_spec (w0 : World) (n : Nat) (hn : n ≤ 100000) :
    Vc.Fn PP w0 [] 18 [.int .i64 n] [] (fun v Γ => ∃ mb, v = .map (some mb) ∧ Γ = [pt mb (mapI (knM (wk 0 (List.replicate n 0))))]) := by
  refine fn_of_run en18 fn18 rfl rfl rfl ?_
  repeat (first | refine zck ?_ | refine zcl ?_ | refine zcm ?_ | refine zcn ?_)
  first | refine zcp (by kernel_rfl) ?_ | refine zcq PP_mixed (by kernel_rfl) (by kernel_rfl) ?_
  repeat' (refine zap rfl ?_; first | refine zan rfl ?_)
  all_goals refine zch ?_
  all_goals repeat (first | refine zck ?_ | refine zcl ?_ | refine zcm ?_ | refine zcn ?_)
  repeat (first | refine zck ?_ | refine zcl ?_ | refine zcm ?_ | refine zcn ?_)
  first | refine zcp (by kernel_rfl) ?_ | refine zcq PP_mixed (by kernel_rfl) (by kernel_rfl) ?_
  repeat' (refine zap rfl ?_; first | refine zan rfl ?_ | refine zcc (fun nb => ?_))
  all_goals refine zch ?_
  all_goals repeat (first | refine zck ?_ | refine zcl ?_ | refine zcm ?_ | refine zcn ?_)
  repeat (first | refine zck ?_ | refine zcl ?_ | refine zcm ?_ | refine zcn ?_)
  first | refine zcp (by kernel_rfl) ?_ | refine zcq PP_mixed (by kernel_rfl) (by kernel_rfl) ?_
  repeat' (refine zap rfl ?_; first | refine zan rfl ?_)
  all_goals refine zch ?_
  all_goals repeat (first | refine zck ?_ | refine zcl ?_ | refine zcm ?_ | refine zcn ?_)
  refine run_loop (S := Nat) (fun i => [(3, .map (some nb)), (6, .int .i64 (n : Int)), (7, .int .i64 (i : Int))])
    (fun i Γ => Γ = [pt nb (mapI (knM (wk 0 (List.replicate i 0))))] ∧ i ≤ n) (fun i => n - i) 0 ⟨rfl, rfl, rfl, trivial⟩ ⟨rfl, Nat.zero_le _⟩ ?_
  rintro i Γ junk ⟨rfl, hi⟩
  by_cases hlt : i < n
  · have hnone : lookW (wk 0 (List.replicate i 0)) (i : Int) = none := by rw [lookW_wk, if_neg]; simp
    have hins : ins (knM (wk 0 (List.replicate i 0))) (i : Int) (wordV ⟨0, 0, 0⟩) = knM (wk 0 (List.replicate (i + 1) 0)) := by
      rw [ins_knM, insW_none _ _ _ hnone, wk_rep]
    repeat' (first | refine zck ?_ | refine zcp (by kernel_rfl) ?_ | refine zcm ?_ | refine zcl ?_ | refine zcn ?_ | (refine zap rfl ?_; first | refine zcb rfl ?_ | refine reg_mapUpdate 0 rfl rfl rfl rfl rfl ?_ | refine zan rfl ?_ | refine zan rfl ?_ | refine zbg rfl rfl (by omega) ?_ | refine zau rfl rfl (by omega) ?_) | refine zch ?_ | refine zci rfl ?_)
    refine cut_end ⟨rfl, i + 1, ⟨rfl, rfl, int_eq (by omega), trivial⟩, ⟨?_, hlt⟩, by omega⟩
    rw [← hins]; rfl
  · repeat' (first | refine zck ?_ | refine zcp (by kernel_rfl) ?_ | (refine zap rfl ?_; first | refine zbh rfl rfl (by omega) ?_) | refine zch ?_ | refine zcj rfl ?_)
    refine cut_exit rfl rfl ?_
    repeat' (first | refine zck ?_ | refine zcp (by kernel_rfl) ?_ | (refine zap rfl ?_; first | refine zan rfl ?_ | refine zan rfl ?_) | refine zch ?_)
    have e : i = n := by omega
    subst e
    exact ret_tmp1 rfl ⟨_, rfl, rfl⟩
theorem alike_spec (w0 : World) (ab bb : Nat) (ka kb : List (Int × Wd)) :
    FnE PP w0 [(ab, mapI (knM ka)), (bb, mapI (knM kb))] 26 [.map (some ab), .map (some bb)] [] (.bool (alikeB ka kb)) [] := by
  refine fn_of_run en26 fn26 rfl rfl rfl ?_
  by_cases hl : ka.length = kb.length
  case neg =>
    have e : alikeB ka kb = false := by unfold alikeB; rw [decide_eq_false hl]; rfl
    have hl2 : (((knM ka).length : Nat) : Int) ≠ ((knM kb).length : Nat) := by rw [knM_length, knM_length]; omega
    repeat' (first | refine zck ?_ | refine zcp (by kernel_rfl) ?_ | (refine zap rfl ?_; first | refine reg_len_mapS 0 rfl rfl ?_ | refine reg_len_mapS 1 rfl rfl ?_ | refine zan rfl ?_ | refine zan rfl ?_ | refine zbe rfl rfl (by omega) ?_) | refine zch ?_ | refine zci rfl ?_)
    rw [e]
    exact ret_tmp1 rfl ⟨rfl, rfl⟩
  have hl2 : (((knM ka).length : Nat) : Int) = ((knM kb).length : Nat) := by rw [knM_length, knM_length]; omega
  repeat (first | refine zck ?_ | refine zcl ?_ | refine zcm ?_ | refine zcn ?_)
  first | refine zcp (by kernel_rfl) ?_ | refine zcq PP_mixed (by kernel_rfl) (by kernel_rfl) ?_
  repeat' (refine zap rfl ?_; first | refine zan rfl ?_)
  all_goals refine zch ?_
  all_goals repeat (first | refine zck ?_ | refine zcl ?_ | refine zcm ?_ | refine zcn ?_)
  repeat (first | refine zck ?_ | refine zcl ?_ | refine zcm ?_ | refine zcn ?_)
  first | refine zcp (by kernel_rfl) ?_ | refine zcq PP_mixed (by kernel_rfl) (by kernel_rfl) ?_
  repeat' (refine zap rfl ?_; first | refine reg_len_mapS 0 rfl rfl ?_ | refine reg_len_mapS 1 rfl rfl ?_ | refine zan rfl ?_ | refine zbf rfl rfl (by omega) ?_)
  all_goals refine zch ?_
  all_goals repeat (first | refine zck ?_ | refine zcl ?_ | refine zcm ?_ | refine zcn ?_)
  refine zcj rfl ?_
  repeat (first | refine zck ?_ | refine zcl ?_ | refine zcm ?_ | refine zcn ?_)
  first | refine zcp (by kernel_rfl) ?_ | refine zcq PP_mixed (by kernel_rfl) (by kernel_rfl) ?_
  repeat' (refine zap rfl ?_; first | refine reg_rangeK rfl (sh_know 0 rfl) (fun nb => ?_) | refine zan rfl ?_)
  all_goals refine zch ?_
  all_goals repeat (first | refine zck ?_ | refine zcl ?_ | refine zcm ?_ | refine zcn ?_)
  revert nb; intro it
  refine run_loop (S := List Nat) (fun _ => [(1, .map (some bb)), (13, .pointer (some ⟨it, 0, none⟩))])
    (fun st Γ => Γ = [pt it (iterI ab (knM ka).length st (knM ka).length)] ∧ (∀ q ∈ st, ∀ p, ka[q]? = some p → valW kb p.1 = p.2.val))
    (fun st => cnt ka.length st) [] ⟨rfl, rfl, trivial⟩ ⟨rfl, by simp⟩ ?_
  rintro seen Γ junk ⟨rfl, h1⟩
  repeat (first | refine zck ?_ | refine zcl ?_ | refine zcm ?_ | refine zcn ?_ | refine zco ?_)
  refine zcp (by kernel_rfl) ?_
  refine zap rfl ?_
  refine reg_next 0 0 rfl rfl (sh_know 0 rfl) rfl (fun _ => rfl) (fun hall => ?_) (fun q e hq hns => ?_)
  · repeat' (first | refine zck ?_ | (refine zap rfl ?_; first | refine zan rfl ?_) | refine zch ?_ | refine zcj rfl ?_)
    refine cut_exit rfl rfl ?_
    repeat' (first | refine zck ?_ | refine zcp (by kernel_rfl) ?_ | (refine zap rfl ?_; first | refine zan rfl ?_) | refine zch ?_)
    refine run_take [] rfl ?_
    have e : alikeB ka kb = true := by
      unfold alikeB
      rw [decide_eq_true hl, Bool.true_and, List.all_eq_true]
      intro p hp
      obtain ⟨q, hq⟩ := List.mem_iff_getElem?.1 hp
      exact decide_eq_true (h1 q (hall q (by rw [knM_length]; exact (List.getElem?_eq_some_iff.1 hq).1)) p hq)
    rw [e]
    exact ret_tmp1 rfl ⟨rfl, rfl⟩
  · rw [knM_get] at hq
    obtain ⟨⟨a, w⟩, hq2, rfl⟩ : ∃ aw, ka[q]? = some aw ∧ e = (aw.1, wordV aw.2) := by
      cases h : ka[q]? with
      | none => rw [h] at hq; cases hq
      | some aw => rw [h] at hq; exact ⟨aw, rfl, (Option.some.inj hq).symm⟩
    have hql := (List.getElem?_eq_some_iff.1 hq2).1
    have hq3 : (knM ka)[q]? = some (a, wordV w) := by rw [knM_get, hq2]; rfl
    repeat' (refine zap rfl ?_; first | refine zan rfl ?_)
    refine zch ?_
    repeat (first | refine zck ?_ | refine zcl ?_ | refine zcm ?_ | refine zcn ?_ | refine zco ?_)
    refine zci rfl ?_
    repeat (first | refine zck ?_ | refine zcl ?_ | refine zcm ?_ | refine zcn ?_ | refine zco ?_)
    repeat (first | refine zck ?_ | refine zcl ?_ | refine zcm ?_ | refine zcn ?_)
    first | refine zcp (by kernel_rfl) ?_ | refine zcq PP_mixed (by kernel_rfl) (by kernel_rfl) ?_
    repeat' (refine zap rfl ?_; first | refine reg_entry 0 rfl rfl (sh_know 0 rfl) hq3 ?_ | refine zan rfl ?_ | refine zan rfl ?_ | refine zae 1 rfl rfl rfl rfl rfl rfl rfl ?_ | refine zar (fun nb => ?_))
    all_goals refine zch ?_
    all_goals repeat (first | refine zck ?_ | refine zcl ?_ | refine zcm ?_ | refine zcn ?_)
    refine run_share [1] rfl ?_
    repeat (first | refine zck ?_ | refine zcl ?_ | refine zcm ?_ | refine zcn ?_)
    first | refine zcp (by kernel_rfl) ?_ | refine zcq PP_mixed (by kernel_rfl) (by kernel_rfl) ?_
    repeat' (refine zap rfl ?_; first | refine reg_lookup_sh 2 rfl rfl rfl (valW_look kb a _ rfl) ?_ | refine reg_fieldV rfl rfl ?_ | refine zan rfl ?_ | refine zaa 0 rfl rfl rfl ?_ | refine zao rfl ?_ | refine zbp rfl rfl ?_)
    all_goals refine zch ?_
    all_goals repeat (first | refine zck ?_ | refine zcl ?_ | refine zcm ?_ | refine zcn ?_)
    refine run_cond rfl (fun hE => ?_) (fun hE => ?_)
    · have hE : valW kb a ≠ w.val := by rw [← valW_getD]; exact hE
      repeat' (first | refine zck ?_ | refine zcp (by kernel_rfl) ?_ | (refine zap rfl ?_; first | refine zan rfl ?_) | refine zch ?_)
      refine run_take [] rfl ?_
      have e : alikeB ka kb = false := by
        unfold alikeB
        rw [decide_eq_true hl, Bool.true_and, List.all_eq_false]
        exact ⟨(a, w), List.mem_of_getElem? hq2, by simpa using hE⟩
      rw [e]
      exact qret1 (fun _ _ h => h) rfl ⟨rfl, rfl⟩
    · have hE : valW kb a = w.val := by rw [← valW_getD]; exact Classical.not_not.1 hE
      repeat' (first | refine zcm ?_ | refine zcn ?_ | (refine zap rfl ?_; first | refine zan rfl ?_) | refine zch ?_)
      refine cut_end ⟨rfl, seen ++ [q], ⟨rfl, rfl, trivial⟩, ⟨rfl, ?_⟩, ?_⟩
      · intro q' hq' p hp
        rcases List.mem_append.1 hq' with hq' | hq'
        · exact h1 q' hq' p hp
        · simp at hq'; subst hq'
          rw [hq2] at hp; cases hp; exact hE
      · have := (cnt_more q seen hns ka.length).2 hql
        omega
end Go.Proofs.YtloekplbhknepaaGreat

namespace Go.Proofs.YtloekplbhknepaaGreat
open Go.Vc Sim
set_option maxHeartbeats 4000000
theorem word_underlying : PP.underlying 68 = some (.struct #[⟨"Val", 2, 0, false, "", "", 0⟩, ⟨"Ver", 66, 1, false, "", "", 8⟩, ⟨"Ref", 66, 2, false, "", "", 12⟩]) := by
  rw [PP_def, Tryz.underlying68]
theorem word_stood : PP.stoodInHeld 68 = false := by rw [PP_def]; kernel_rfl
theorem word_guard : PP.eqGuardType PP.depth 68 = false := by rw [PP_def]; kernel_rfl
theorem int_eqIn {t : TypeId} {k : IntKind} (h : PP.underlying t = some (.int k)) (d : Nat) (m : Int) (w : World) : (Op.equalIn (d + 1) t (.int k m) (.int k m)).run PP w = .ok true w := by
  simp [Op.equalIn, run_underlying h]
theorem run_equal2 {P : Program} {t : TypeId} {u v : Value} {q : Bool} {w : World} (h : ∀ d, (Op.equalIn (d + 2) t u v).run P w = .ok q w) : (Op.equal t u v).run P w = .ok q w := h 9998
theorem word_equal (a b c : Int) (w : World) : (Op.equal 68 (.agg #[.int .i64 a, .int .u32 b, .int .u32 c]) (.agg #[.int .i64 a, .int .u32 b, .int .u32 c])).run PP w = .ok true w := by
  have h2 : PP.underlying 2 = some (.int .i64) := by rw [PP_def, Tryz.underlying2]
  have h46 : PP.underlying 66 = some (.int .u32) := by rw [PP_def, Tryz.underlying66]
  have e2 := fun d w => int_eqIn h2 d a w
  have e46 := fun d m w => int_eqIn h46 d m w
  have a2 : ∀ w, (isAgg 2).run PP w = .ok false w := fun w => TShape.agg_run w
  have a46 : ∀ w, (isAgg 66).run PP w = .ok false w := fun w => TShape.agg_run w
  have p2 : ∀ w, (part 2 #[Value.int .i64 a, .int .u32 b, .int .u32 c] 0).run PP w = .ok (.int .i64 a) w := fun w => by simp [part, a2]
  have p3 : ∀ w, (part 66 #[Value.int .i64 a, .int .u32 b, .int .u32 c] 1).run PP w = .ok (.int .u32 b) w := fun w => by simp [part, a46]
  have p4 : ∀ w, (part 66 #[Value.int .i64 a, .int .u32 b, .int .u32 c] 2).run PP w = .ok (.int .u32 c) w := fun w => by simp [part, a46]
  refine run_equal2 (fun d => ?_)
  rw [Op.equalIn]
  simp only [Sem.run_bind, run_underlying word_underlying, Result.andThen_ok]
  have hs : (program).run PP w = .ok PP w := rfl
  simp only [hs, Result.andThen_ok, word_stood, Bool.false_eq_true, if_false]
  simp [← Array.forIn_toList, p2, p3, p4, e2, e46]
section
variable {w0 : World} {n : Nat} {sh : Shared} {Q : Exit → Env → List Deferred → List Asn → Prop} {k : List Item} {ρ : Env} {df : List Deferred} {Γ : List Asn}
variable {ops : Array Oper} {l : List (Fl × Nat × Oper)} {bf : Fl} {i d : Nat} {ty : TypeId} {pos : String} {aft : Array Edge} {x y : Operand} {yt : TypeId}
theorem reg_ne_word {a b c a' b' c' : Int} (hx : ev ρ x = .agg #[.int .i64 a, .int .u32 b, .int .u32 c]) (hy : ev ρ y = .agg #[.int .i64 a', .int .u32 b', .int .u32 c']) (he : a = a' ∧ b = b' ∧ c = c')
    (h : Reg PP w0 n sh Q ops l k (ρ.set d (.bool false)) df Γ) : Reg PP w0 n sh Q ops ((bf, i, ⟨some d, .binOp .neq 68 x y yt, ty, pos, aft, none⟩) :: l) k ρ df Γ :=
  reg_quiet rfl (fun hF _ => quiet_of_run fun w => by
    obtain ⟨rfl, rfl, rfl⟩ := he
    have hs : (program).run PP w = .ok PP w := rfl
    have hg : (eqGuard .neq 68 x y (.agg #[.int .i64 a, .int .u32 b, .int .u32 c]) (.agg #[.int .i64 a, .int .u32 b, .int .u32 c])).run PP w = .ok () w := by
      simp [eqGuard, hs, word_guard]
    have hb : (binOp .neq 68 (.agg #[.int .i64 a, .int .u32 b, .int .u32 c]) (.agg #[.int .i64 a, .int .u32 b, .int .u32 c])).run PP w = .ok (.bool false) w := by
      show (do let r ← Op.equal _ _ _; pure (Value.bool (!r)) : Sem Value).run PP w = _
      simp [word_equal]
    simp only [execOp, hx, hy, Sem.run_bind, hg, hb, Result.andThen_ok, Sem.run_pure]) h
end
end Go.Proofs.YtloekplbhknepaaGreat

