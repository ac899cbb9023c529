import Derived.Sort.LotD5
import Derived.Test.YtpcnbaddkblbhaaPart2
import Derived.Test.YtpcnbaddkblbhaaKit1
import Derived.Test.YtpcnbaddkblbhaaKit
import Derived.Test.YtpcnbaddkblbhaaPart1
/- Lemmas and walks for the claims of this seat (own work): So9 So10 So11 So12 So13 Nw0 Nw2 Fa3 Fa4 Cp0 Ws0 Fo1 Fo2 Fo3 Fo4 Fo5. -/
namespace Go.Proofs.Ytpcnbaddkblbhaa
open Go.Vc
open Go.Sort (bitsLen xorNextN)
theorem bl_big (n : Nat) (h : 256 ≤ n) : bitsLen n = bitsLen (n / 256) + 8 := by
  have h1 : ∀ k, bitsLen n ≤ k + 8 ↔ bitsLen (n / 256) ≤ k := fun k => by
    rw [Go.Sort.bitsLen_le_iff, Go.Sort.bitsLen_le_iff, Nat.pow_add]; omega
  have h2 : ¬ bitsLen n ≤ 8 := by rw [Go.Sort.bitsLen_le_iff]; omega
  have h3 := (h1 (bitsLen n - 8)).1 (by omega)
  have h4 := (h1 (bitsLen (n / 256))).2 (Nat.le_refl _)
  omega
def tabOk (s : ByteArray) : Bool := (List.range 256).all fun i => match s[i]? with | some c => c.toNat == bitsLen i | none => false
section
variable {P : Program} {w0 : World} {n : Nat} {sh : Shared} {Q : Exit → Env → List Deferred → List Asn → Prop} {k : List Item} {ρ : Env} {df : List Deferred} {Γ : List Asn}
variable {ops : Array Oper} {l : List (Fl × Nat × Oper)} {b : Fl} {i d : Nat} {ty : TypeId} {pos : String} {aft : Array Edge}
theorem reg_len8 {x y : Operand} {t : TypeId} {kd : IntKind} {s : ByteArray} (X : Nat) {z : Int} [hT : TUnd P t .string] (hx : ev ρ x = .string s) (hs : tabOk s = true) (hy : ev ρ y = .int kd z) (hz : z = X) (hX : X < 256)
    (h : Reg P w0 n sh Q ops l k (ρ.set d (.int .u8 (bitsLen X : Nat))) df Γ) : Reg P w0 n sh Q ops ((b, i, ⟨some d, .index t x y, ty, pos, aft, none⟩) :: l) k ρ df Γ := by
  have h1 := List.all_eq_true.1 hs X (List.mem_range.2 hX)
  subst hz
  split at h1
  · rename_i c hc
    have h2 : c.toNat = bitsLen X := by simpa using h1
    exact reg_index_str hx hy (by omega) (c := c) (by simpa using hc) (by rw [h2]; exact h)
  · cases h1
end
theorem len64_spec (w0 : World) (x : Nat) (hx : x < 65536) : FnE PP w0 [] 89 [.int .u64 x] [] (.int .i64 (bitsLen x : Nat)) [] := by
  refine fn_of_run en89 fn89 rfl rfl rfl ?_
  by_cases h : 256 ≤ x
  · have hb := (Go.Sort.bitsLen_le_iff (x / 256) 8).2 (by omega)
    repeat' (first | refine zck ?_ | refine zcp (by kernel_rfl) ?_ | refine zcm ?_ | (refine zap rfl ?_; first | refine reg_shr_u64 8 256 rfl rfl rfl (by decide) rfl ?_ | refine reg_convN ((x / 256 : Nat) : Int) rfl (by simp only [IntKind.wrap, IntKind.bits, IntKind.signed]; simp; omega) ?_ | refine reg_len8 (x / 256) rfl (by kernel_rfl) rfl rfl (by omega) ?_ | ((with_reducible refine zcu ?_); refine zan rfl ?_) | ((with_reducible refine zcv ?_); refine zan rfl ?_) | ((with_reducible refine zda ?_); first | refine zbm rfl rfl (by omega) ?_ | refine zbn rfl rfl (by omega) ?_ | refine zau rfl rfl (by omega) ?_) | ((with_reducible refine zdi ?_); refine zbz rfl (by omega) ?_)) | refine zch ?_ | refine zci rfl ?_ | refine zcj rfl ?_)
    refine ret_tmp1 rfl ⟨int_eq ?_, rfl⟩
    rw [bl_big x h]; omega
  · have hb := (Go.Sort.bitsLen_le_iff x 8).2 (by omega)
    repeat' (first | refine zck ?_ | refine zcp (by kernel_rfl) ?_ | refine zcm ?_ | (refine zap rfl ?_; first | refine reg_convN (x : Int) rfl (by simp only [IntKind.wrap, IntKind.bits, IntKind.signed]; simp; omega) ?_ | refine reg_len8 x rfl (by kernel_rfl) rfl rfl (by omega) ?_ | ((with_reducible refine zcu ?_); refine zan rfl ?_) | ((with_reducible refine zcv ?_); refine zan rfl ?_) | ((with_reducible refine zda ?_); first | refine zbn rfl rfl (by omega) ?_ | refine zau rfl rfl (by omega) ?_) | ((with_reducible refine zdi ?_); refine zbz rfl (by omega) ?_)) | refine zch ?_ | refine zcj rfl ?_)
    refine ret_tmp1 rfl ⟨int_eq ?_, rfl⟩
    omega
theorem blen_spec (w0 : World) (x : Nat) (hx : x < 65536) : FnE PP w0 [] 70 [.int .u64 x] [] (.int .i64 (bitsLen x : Nat)) [] := by
  refine fn_of_run en70 fn70 rfl rfl rfl ?_
  repeat' (first | refine zck ?_ | refine zcp (by kernel_rfl) ?_ | refine zcm ?_ | (refine zap rfl ?_; first | ((with_reducible refine zcu ?_); refine zan rfl ?_) | ((with_reducible refine zcv ?_); refine zan rfl ?_) | ((with_reducible refine zcx ?_); refine zah [] (len64_spec w0 x hx) rfl rfl rfl sub_nil rfl ?_)) | refine zch ?_ | refine zcj rfl ?_)
  exact ret_tmp1 rfl ⟨rfl, rfl⟩
theorem npow_spec (w0 : World) (x : Nat) (hx : x < 65536) : FnE PP w0 [] 95 [.int .i64 x] [] (.int .u64 ((1 <<< bitsLen x : Nat) : Int)) [] := by
  refine fn_of_run en95 fn95 rfl rfl rfl ?_
  have hb := (Go.Sort.bitsLen_le_iff x 16).2 (by omega)
  have hp : 2 ^ bitsLen x ≤ 2 ^ 16 := Nat.pow_le_pow_right (by decide) hb
  repeat' (first | refine zck ?_ | refine zcp (by kernel_rfl) ?_ | (refine zap rfl ?_; first | refine reg_convN (x : Int) rfl (by rw [IntKind.wrap_u64]; omega) ?_ | refine reg_shl_u64 (X := 1) (bitsLen x) _ rfl rfl rfl (by omega) rfl ?_ | ((with_reducible refine zcu ?_); refine zan rfl ?_) | ((with_reducible refine zcv ?_); refine zan rfl ?_) | ((with_reducible refine zcx ?_); refine zah [] (blen_spec w0 x hx) rfl rfl rfl sub_nil rfl ?_)) | refine zch ?_)
  refine ret_tmp1 rfl ⟨int_eq ?_, rfl⟩
  rw [Nat.one_shiftLeft]; omega
theorem next_spec (w0 : World) (rb X : Nat) (hX : X < 18446744073709551616) : FnE PP w0 [] 96 [.pointer (some ⟨rb, 0, none⟩)] [pt rb (.cells (List.toArray [.int .u64 (X : Int)]) 145 (0, 0))]
    (.int .u64 (xorNextN X : Nat)) [pt rb (.cells (List.toArray [.int .u64 (xorNextN X : Nat)]) 145 (0, 0))] := by
  refine fn_of_run en96 fn96 rfl rfl rfl ?_
  obtain ⟨A, hA⟩ : ∃ A : Nat, A = X ^^^ (X * 8192 % 18446744073709551616) := ⟨_, rfl⟩
  obtain ⟨B, hB⟩ : ∃ B : Nat, B = A ^^^ (A / 128) := ⟨_, rfl⟩
  have lA : A < 18446744073709551616 := by rw [hA]; exact Nat.xor_lt_two_pow (n := 64) (by omega) (by omega)
  have lB : B < 18446744073709551616 := by rw [hB]; exact Nat.xor_lt_two_pow (n := 64) (by omega) (by omega)
  repeat (first | refine zck ?_ | refine zcl ?_ | refine zcm ?_ | refine zcn ?_)
  first | refine zcp (by kernel_rfl) ?_ | refine run_drawR PP_mixed (by kernel_rfl) (by kernel_rfl) ?_
  repeat' (refine zap rfl ?_; first | ((with_reducible refine zcv ?_); refine zan rfl ?_))
  all_goals refine zch ?_
  all_goals repeat (first | refine zck ?_ | refine zcl ?_ | refine zcm ?_ | refine zcn ?_)
  repeat (first | refine zck ?_ | refine zcl ?_ | refine zcm ?_ | refine zcn ?_)
  first | refine zcp (by kernel_rfl) ?_ | refine run_drawR PP_mixed (by kernel_rfl) (by kernel_rfl) ?_
  repeat' (refine zap rfl ?_; first | refine reg_shl_u64 13 8192 rfl rfl rfl (by decide) rfl ?_ | refine reg_xor_u64 rfl rfl (by omega) (by omega) ?_ | ((with_reducible refine zcu ?_); refine zan rfl ?_) | ((with_reducible refine zcw ?_); refine zab 0 rfl rfl rfl ?_) | ((with_reducible refine zdd ?_); refine zae 0 rfl rfl rfl rfl rfl rfl rfl ?_) | ((with_reducible refine zde ?_); refine zan rfl ?_))
  all_goals refine zch ?_
  all_goals repeat (first | refine zck ?_ | refine zcl ?_ | refine zcm ?_ | refine zcn ?_)
  rw [← hA]
  repeat (first | refine zck ?_ | refine zcl ?_ | refine zcm ?_ | refine zcn ?_)
  first | refine zcp (by kernel_rfl) ?_ | refine run_drawR PP_mixed (by kernel_rfl) (by kernel_rfl) ?_
  repeat' (refine zap rfl ?_; first | refine reg_shr_u64 7 128 rfl rfl rfl (by decide) rfl ?_ | refine reg_xor_u64 rfl rfl (by omega) (by omega) ?_ | ((with_reducible refine zcu ?_); refine zan rfl ?_) | ((with_reducible refine zcw ?_); refine zab 0 rfl rfl rfl ?_) | ((with_reducible refine zdd ?_); refine zae 0 rfl rfl rfl rfl rfl rfl rfl ?_) | ((with_reducible refine zde ?_); refine zan rfl ?_))
  all_goals refine zch ?_
  all_goals repeat (first | refine zck ?_ | refine zcl ?_ | refine zcm ?_ | refine zcn ?_)
  rw [← hB]
  repeat (first | refine zck ?_ | refine zcl ?_ | refine zcm ?_ | refine zcn ?_)
  first | refine zcp (by kernel_rfl) ?_ | refine run_drawR PP_mixed (by kernel_rfl) (by kernel_rfl) ?_
  repeat' (refine zap rfl ?_; first | refine reg_shl_u64 17 131072 rfl rfl rfl (by decide) rfl ?_ | refine reg_xor_u64 rfl rfl (by omega) (by omega) ?_ | ((with_reducible refine zcu ?_); refine zan rfl ?_) | ((with_reducible refine zcw ?_); refine zab 0 rfl rfl rfl ?_) | ((with_reducible refine zdd ?_); refine zae 0 rfl rfl rfl rfl rfl rfl rfl ?_) | ((with_reducible refine zde ?_); refine zan rfl ?_))
  all_goals refine zch ?_
  all_goals repeat (first | refine zck ?_ | refine zcl ?_ | refine zcm ?_ | refine zcn ?_)
  repeat' (first | refine zcp (by kernel_rfl) ?_ | (refine zap rfl ?_; first | ((with_reducible refine zcu ?_); refine zan rfl ?_) | ((with_reducible refine zcv ?_); refine zan rfl ?_) | ((with_reducible refine zcw ?_); refine zab 0 rfl rfl rfl ?_) | ((with_reducible refine zde ?_); refine zan rfl ?_)) | refine zch ?_)
  have e : xorNextN X = B ^^^ (B * 131072 % 18446744073709551616) := by unfold xorNextN; simp only []; rw [← hA, ← hB]
  rw [e]
  exact ret_tmp1 rfl ⟨rfl, rfl⟩
end Go.Proofs.Ytpcnbaddkblbhaa

namespace Go.Proofs.Ytpcnbaddkblbhaa
open Go.Vc
open Go.Sort (swp bitsLen xorNextN xorNext breakStep breakPatterns)
section
variable {P : Program} {w0 : World} {n : Nat} {sh : Shared} {Q : Exit → Env → List Deferred → List Asn → Prop} {k : List Item} {ρ : Env} {df : List Deferred} {Γ : List Asn}
variable {ops : Array Oper} {l : List (Fl × Nat × Oper)} {b : Fl} {i d : Nat} {ty : TypeId} {pos : String} {aft : Array Edge}
theorem reg_sub_u64 {x y : Operand} {t yt : TypeId} {X : Nat} (Y : Nat) {z : Int} (hx : ev ρ x = .int .u64 (X : Int)) (hy : ev ρ y = .int .u64 z) (hz : z = Y) (hb : Y ≤ X) (hX : X < 18446744073709551616)
    (h : Reg P w0 n sh Q ops l k (ρ.set d (.int .u64 ((X - Y : Nat) : Int))) df Γ) : Reg P w0 n sh Q ops ((b, i, ⟨some d, .binOp .sub t x y yt, ty, pos, aft, none⟩) :: l) k ρ df Γ :=
  reg_sub hx hy (by rw [IntKind.wrap_u64, hz, show ((X : Int) - (Y : Int)) % 18446744073709551616 = ((X - Y : Nat) : Int) by omega]; exact h)
end
/-- The rounds of breakPatterns. -/
def brk (a len m idx : Nat) (D : Array Int) : Nat → UInt64 × Array Int
  | 0 => (UInt64.ofNat len, D)
  | k + 1 => breakStep a len m (brk a len m idx D k) (idx + k)
theorem brk_eq {a b : Nat} {D : Array Int} (h : 8 ≤ b - a) : breakPatterns D a b = (brk a (b - a) (1 <<< bitsLen (b - a)) (a + ((b - a) / 4) * 2 - 1) D 3).2 := by
  unfold breakPatterns
  simp only [ge_iff_le, h, if_true]
  rfl
theorem brk_step {a len m idx k : Nat} {D : Array Int} {r : UInt64} {d : Array Int} {o : Nat} (hk : brk a len m idx D k = (r, d)) (ho : o = if xorNextN r.toNat &&& (m - 1) ≥ len then (xorNextN r.toNat &&& (m - 1)) - len else xorNextN r.toNat &&& (m - 1)) :
    brk a len m idx D (k + 1) = (xorNext r, swp d (idx + k) (a + o)) := by
  rw [brk, hk, breakStep, ho]
  simp only [Go.Sort.xorNext_toNat]
set_option maxHeartbeats 4000000
theorem break_spec (w0 : World) (bb N cap : Nat) (D : Array Int) (a b : Nat) (hN : N < 65536) (hab : a + 8 ≤ b) (hb : b ≤ N) :
    Vc.Fn PP w0 [] 81 [.slice (some ⟨bb, 0, none⟩) N cap, .int .i64 a, .int .i64 b] [Dat 27 bb N cap D]
      fun v Γ => v = .tuple #[] ∧ ∃ rb x, Γ = [Dat 27 bb N cap (breakPatterns D a b), pt rb (.cells (List.toArray [.int .u64 (x : Int)]) 145 (0, 0))] := by
  refine fn_of_run en81 fn81 rfl rfl rfl ?_
  have hlen : (UInt64.ofNat (b - a)).toNat = b - a := by rw [UInt64.toNat_ofNat']; exact Nat.mod_eq_of_lt (by omega)
  obtain ⟨m, hm⟩ : ∃ m, m = 1 <<< bitsLen (b - a) := ⟨_, rfl⟩
  have hm1 : m ≤ 2 * (b - a) := by rw [hm, Nat.one_shiftLeft]; exact Go.Sort.two_pow_bitsLen_le (by omega)
  have hm0 : 0 < m := by rw [hm, Nat.one_shiftLeft]; exact Nat.pow_pos (by decide)
  have hP := npow_spec w0 (b - a) (by omega)
  rw [← hm] at hP
  have hsub : ((b : Int) - (a : Int)) = ((b - a : Nat) : Int) := by omega
  repeat (first | refine zck ?_ | refine zcl ?_ | refine zcm ?_ | refine zcn ?_)
  first | refine zcp (by kernel_rfl) ?_ | refine zcq PP_mixed (by kernel_rfl) (by kernel_rfl) ?_
  repeat' (refine zap rfl ?_; first | ((with_reducible refine zcu ?_); refine zan rfl ?_) | ((with_reducible refine zcv ?_); refine zan rfl ?_) | ((with_reducible refine zda ?_); refine zav rfl rfl (by omega) ?_))
  all_goals refine zch ?_
  all_goals repeat (first | refine zck ?_ | refine zcl ?_ | refine zcm ?_ | refine zcn ?_)
  repeat (first | refine zck ?_ | refine zcl ?_ | refine zcm ?_ | refine zcn ?_)
  first | refine zcp (by kernel_rfl) ?_ | refine zcq PP_mixed (by kernel_rfl) (by kernel_rfl) ?_
  repeat' (refine zap rfl ?_; first | ((with_reducible refine zcu ?_); refine zan rfl ?_) | ((with_reducible refine zda ?_); refine zbm rfl rfl (by omega) ?_))
  all_goals refine zch ?_
  all_goals repeat (first | refine zck ?_ | refine zcl ?_ | refine zcm ?_ | refine zcn ?_)
  refine zci rfl ?_
  repeat refine zck ?_
  rw [hsub]
  repeat (first | refine zck ?_ | refine zcl ?_ | refine zcm ?_ | refine zcn ?_)
  first | refine zcp (by kernel_rfl) ?_ | refine zcq PP_mixed (by kernel_rfl) (by kernel_rfl) ?_
  repeat' (refine zap rfl ?_; first | refine reg_convN (((b - a : Nat) : Int)) rfl (by rw [IntKind.wrap_u64]; omega) ?_ | ((with_reducible refine zcu ?_); refine zan rfl ?_) | ((with_reducible refine zdd ?_); refine zae 1 rfl rfl rfl rfl rfl rfl rfl ?_) | ((with_reducible refine zdh ?_); refine zar (fun nb => ?_)))
  all_goals refine zch ?_
  all_goals repeat (first | refine zck ?_ | refine zcl ?_ | refine zcm ?_ | refine zcn ?_)
  repeat (first | refine zck ?_ | refine zcl ?_ | refine zcm ?_ | refine zcn ?_)
  first | refine zcp (by kernel_rfl) ?_ | refine zcq PP_mixed (by kernel_rfl) (by kernel_rfl) ?_
  repeat' (refine zap rfl ?_; first | ((with_reducible refine zcu ?_); refine zan rfl ?_) | ((with_reducible refine zcv ?_); refine zan rfl ?_) | ((with_reducible refine zcx ?_); refine zah [] hP rfl rfl rfl sub_nil rfl ?_))
  all_goals refine zch ?_
  all_goals repeat (first | refine zck ?_ | refine zcl ?_ | refine zcm ?_ | refine zcn ?_)
  repeat (first | refine zck ?_ | refine zcl ?_ | refine zcm ?_ | refine zcn ?_)
  first | refine zcp (by kernel_rfl) ?_ | refine zcq PP_mixed (by kernel_rfl) (by kernel_rfl) ?_
  repeat' (refine zap rfl ?_; first | ((with_reducible refine zcu ?_); refine zan rfl ?_) | ((with_reducible refine zcv ?_); refine zan rfl ?_) | ((with_reducible refine zda ?_); first | refine zau rfl rfl (by omega) ?_ | refine zav rfl rfl (by omega) ?_ | refine zaw rfl rfl (by omega) ?_ | refine zax rfl rfl (by omega) ?_))
  all_goals refine zch ?_
  all_goals repeat (refine zck ?_)
  refine zcl ?_
  refine run_loop (S := Nat × UInt64 × Array Int) (fun s => [(0, .slice (some ⟨bb, 0, none⟩) N cap), (1, .int .i64 a), (6, .int .i64 ((b - a : Nat) : Int)), (7, .pointer (some ⟨nb, 0, none⟩)), (8, .int .u64 (m : Int)), (9, .int .i64 ((a + ((b - a) / 4) * 2 - 1 + s.1 : Nat) : Int))])
    (fun s Γ => Γ = [Dat 27 bb N cap s.2.2, pt nb (.cells (List.toArray [.int .u64 (s.2.1.toNat : Int)]) 145 (0, 0))] ∧ s.1 ≤ 3 ∧ brk a (b - a) m (a + ((b - a) / 4) * 2 - 1) D s.1 = s.2)
    (fun s => 3 - s.1) (0, UInt64.ofNat (b - a), D) ⟨rfl, rfl, rfl, rfl, rfl, int_eq (by first | rfl | omega | (dsimp only; omega)), trivial⟩ ⟨by rw [hlen]; rfl, by dsimp only; omega, rfl⟩ ?_
  rintro ⟨k, r, d⟩ Γ junk ⟨rfl, h1, h2⟩
  dsimp only at h1 h2 ⊢
  by_cases hk : k < 3
  · have hrl := Go.Sort.xorNextN_lt r.toNat r.toNat_lt
    have hN1 := next_spec w0 nb r.toNat r.toNat_lt
    obtain ⟨R, hR⟩ : ∃ R, R = xorNextN r.toNat := ⟨_, rfl⟩
    rw [← hR] at hN1 hrl
    obtain ⟨o, ho⟩ : ∃ o, o = R &&& (m - 1) := ⟨_, rfl⟩
    have hol : o ≤ m - 1 := by rw [ho]; exact Nat.and_le_right
    have hxr : (xorNext r).toNat = R := by rw [hR]; exact Go.Sort.xorNext_toNat r
    repeat (first | refine zck ?_ | refine zcl ?_ | refine zcm ?_ | refine zcn ?_)
    first | refine zcp (by kernel_rfl) ?_ | refine run_drawR PP_mixed (by kernel_rfl) (by kernel_rfl) ?_
    repeat' (refine zap rfl ?_; first | ((with_reducible refine zcu ?_); refine zan rfl ?_) | ((with_reducible refine zda ?_); first | refine zbi rfl rfl (by omega) ?_ | refine zau rfl rfl (by omega) ?_ | refine zaw rfl rfl (by omega) ?_ | refine zax rfl rfl (by omega) ?_))
    all_goals refine zch ?_
    all_goals repeat (first | refine zck ?_ | refine zcl ?_ | refine zcm ?_ | refine zcn ?_)
    refine zci rfl ?_
    repeat (first | refine zcm ?_ | refine zcl ?_ | refine zck ?_)
    repeat (first | refine zck ?_ | refine zcl ?_ | refine zcm ?_ | refine zcn ?_)
    first | refine zcp (by kernel_rfl) ?_ | refine zcq PP_mixed (by kernel_rfl) (by kernel_rfl) ?_
    repeat' (refine zap rfl ?_; first | refine reg_sub_u64 1 rfl rfl rfl (by omega) (by omega) ?_ | refine reg_and_u64 rfl rfl (by omega) (by omega) ?_ | ((with_reducible refine zcu ?_); refine zan rfl ?_) | ((with_reducible refine zcv ?_); refine zan rfl ?_) | ((with_reducible refine zcx ?_); refine zah [1] hN1 rfl rfl rfl sub_nil rfl ?_) | ((with_reducible refine zdi ?_); refine zbz rfl (by omega) ?_))
    all_goals refine zch ?_
    all_goals repeat (first | refine zck ?_ | refine zcl ?_ | refine zcm ?_ | refine zcn ?_)
    rw [← ho]
    refine run_perm (List.Perm.swap _ _ _) ?_
    by_cases hq : b - a ≤ o
    · repeat' (first | refine zcp (by kernel_rfl) ?_ | refine run_drawR PP_mixed (by kernel_rfl) (by kernel_rfl) ?_ | refine zcn ?_ | (refine zap rfl ?_; first | refine reg_load_d 0 rfl rfl (by omega) ?_ | refine reg_store_d 0 rfl rfl rfl (by omega) rfl ?_ | ((with_reducible refine zcu ?_); refine zan rfl ?_) | ((with_reducible refine zcv ?_); refine zan rfl ?_) | ((with_reducible refine zda ?_); first | refine zbm rfl rfl (by omega) ?_ | refine zau rfl rfl (by omega) ?_ | refine zav rfl rfl (by omega) ?_) | ((with_reducible refine zdf ?_); refine zas rfl rfl (by omega) ?_)) | refine zch ?_ | refine zci rfl ?_)
      have e1 : ((a + (b - a) / 4 * 2 - 1 + k : Nat) : Int).toNat = a + (b - a) / 4 * 2 - 1 + k := by omega
      have e2 : ((a : Int) + ((o : Int) - ((b - a : Nat) : Int))).toNat = a + (o - (b - a)) := by omega
      refine cut_end ⟨rfl, (k + 1, xorNext r, swp d (a + (b - a) / 4 * 2 - 1 + k) (a + (o - (b - a)))), ⟨rfl, rfl, rfl, rfl, rfl, int_eq (by first | rfl | omega | (dsimp only; omega)), trivial⟩, ⟨?_, by dsimp only; omega, ?_⟩, by dsimp only; omega⟩
      · rw [hxr, e1, e2]; rfl
      · exact brk_step h2 (by rw [← hR, ← ho, if_pos hq])
    · repeat' (first | refine zcp (by kernel_rfl) ?_ | refine run_drawR PP_mixed (by kernel_rfl) (by kernel_rfl) ?_ | refine zcm ?_ | refine zcn ?_ | (refine zap rfl ?_; first | refine reg_load_d 0 rfl rfl (by omega) ?_ | refine reg_store_d 0 rfl rfl rfl (by omega) rfl ?_ | ((with_reducible refine zcu ?_); refine zan rfl ?_) | ((with_reducible refine zcv ?_); refine zan rfl ?_) | ((with_reducible refine zda ?_); first | refine zbn rfl rfl (by omega) ?_ | refine zau rfl rfl (by omega) ?_) | ((with_reducible refine zdf ?_); refine zas rfl rfl (by omega) ?_)) | refine zch ?_ | refine zcj rfl ?_)
      have e1 : ((a + (b - a) / 4 * 2 - 1 + k : Nat) : Int).toNat = a + (b - a) / 4 * 2 - 1 + k := by omega
      have e2 : ((a : Int) + (o : Int)).toNat = a + o := by omega
      refine cut_end ⟨rfl, (k + 1, xorNext r, swp d (a + (b - a) / 4 * 2 - 1 + k) (a + o)), ⟨rfl, rfl, rfl, rfl, rfl, int_eq (by first | rfl | omega | (dsimp only; omega)), trivial⟩, ⟨?_, by dsimp only; omega, ?_⟩, by dsimp only; omega⟩
      · rw [hxr, e1, e2]; rfl
      · exact brk_step h2 (by rw [← hR, ← ho, if_neg hq])
  · repeat' (first | refine zck ?_ | refine zcp (by kernel_rfl) ?_ | (refine zap rfl ?_; first | ((with_reducible refine zcu ?_); refine zan rfl ?_) | ((with_reducible refine zda ?_); first | refine zbj rfl rfl (by omega) ?_ | refine zau rfl rfl (by omega) ?_ | refine zaw rfl rfl (by omega) ?_ | refine zax rfl rfl (by omega) ?_)) | refine zch ?_ | refine zcj rfl ?_)
    refine cut_exit rfl rfl ?_
    repeat' (first | refine zck ?_ | (refine zap rfl ?_; first | ((with_reducible refine zcu ?_); refine zan rfl ?_)) | refine zch ?_)
    have hk3 : k = 3 := by omega
    subst hk3
    refine end_tmp0 rfl ⟨rfl, nb, r.toNat, ?_⟩
    rw [brk_eq (by omega), ← hm, h2]
end Go.Proofs.Ytpcnbaddkblbhaa

namespace Go.Proofs.Ytpcnbaddkblbhaa
open Go.Vc
open Go.Sort (ltInt swp bitsLen Hint insertionSort heapSort breakPatterns choosePivot reverseRange partialInsertionSort partitionEqual partition pdq)
theorem fn_drop {P : Program} {w0 : World} {sh : Shared} {f : FuncId} {args : List Value} {Γ Γ1 : List Asn} {R : Value → List Asn → Prop} {v : Value} (h : Vc.Fn P w0 sh f args Γ R) (hR : ∀ v' Γ', R v' Γ' → v' = v ∧ ∃ Γr, Γ' = Γ1 ++ Γr) :
    FnE P w0 sh f args Γ v Γ1 :=
  ⟨h.enters, fun hF w hsh hst => (h.calls hF w hsh hst).mono (by
    rintro e w' ⟨v', Γ', he, hr, hst'⟩
    obtain ⟨rfl, Γr, rfl⟩ := hR _ _ hr
    exact ⟨_, Γ1, he, ⟨rfl, rfl⟩, hst'.left⟩)⟩
theorem choose_specE (w0 : World) (bb N cap : Nat) (D : Array Int) (a b : Nat) (hN : N ≤ 1152921504606846975) (hab : a < b) (hb : b ≤ N) :
    FnE PP w0 [] 82 [.slice (some ⟨bb, 0, none⟩) N cap, .int .i64 a, .int .i64 b] [Dat 27 bb N cap D]
      (.tuple #[.int .i64 ((choosePivot ltInt D a b).1 : Nat), .int .i64 (hintI (choosePivot ltInt D a b).2)]) [Dat 27 bb N cap D] :=
  fn_drop (choose_spec w0 bb N cap D a b hN hab hb) (by rintro v Γ ⟨h1, sw, s, h2⟩; exact ⟨h1, [Swp sw s], h2⟩)
theorem break_specE (w0 : World) (bb N cap : Nat) (D : Array Int) (a b : Nat) (hN : N < 65536) (hab : a + 8 ≤ b) (hb : b ≤ N) :
    FnE PP w0 [] 81 [.slice (some ⟨bb, 0, none⟩) N cap, .int .i64 a, .int .i64 b] [Dat 27 bb N cap D]
      (.tuple #[]) [Dat 27 bb N cap (breakPatterns D a b)] :=
  fn_drop (break_spec w0 bb N cap D a b hN hab hb) (by rintro v Γ ⟨h1, rb, x, h2⟩; exact ⟨h1, [_], h2⟩)
theorem hintI_two {h : Hint} : hintI h = 2 ↔ h = .decreasing := by cases h <;> simp [hintI]
theorem hintI_one {h : Hint} : hintI h = 1 ↔ h = .increasing := by cases h <;> simp [hintI]
theorem pdq_small {d : Array Int} {a b limit : Nat} {wb wp : Bool} (h : b - a ≤ 12) : pdq ltInt d a b limit wb wp = insertionSort ltInt d a b := by
  rw [pdq, if_pos h]
theorem pdq_heap {d : Array Int} {a b : Nat} {wb wp : Bool} (h : ¬ b - a ≤ 12) : pdq ltInt d a b 0 wb wp = heapSort ltInt d a b := by
  rw [pdq, if_neg h, if_pos rfl]
theorem pdq_unf {d d1 d2 : Array Int} {a b limit lim pv : Nat} {wb wp : Bool} {c : Nat × Hint} {hint : Hint} {pi : Array Int × Bool} (h12 : ¬ b - a ≤ 12) (h0 : limit ≠ 0)
    (hd1 : d1 = if !wb then breakPatterns d a b else d) (hlim : lim = if !wb then limit - 1 else limit) (hc : c = choosePivot ltInt d1 a b) (hd2 : d2 = if c.2 = .decreasing then reverseRange d1 a b else d1)
    (hpv : pv = if c.2 = .decreasing then (b - 1) - (c.1 - a) else c.1) (hh : hint = if c.2 = .decreasing then .increasing else c.2) (hpi : pi = if wb && wp && hint = .increasing then partialInsertionSort ltInt d2 a b else (d2, false)) :
    pdq ltInt d a b limit wb wp = if pi.2 then pi.1 else
      if a > 0 && !ltInt pi.1[a - 1]! pi.1[pv]! then
        match partitionEqual ltInt pi.1 a b pv with
        | (mid, d4) => if _h : a < mid ∧ mid ≤ b then pdq ltInt d4 mid b lim wb wp else d4
      else
        match partition ltInt pi.1 a b pv with
        | (mid, ap, d4) =>
          if _h : a ≤ mid ∧ mid < b then
            if mid - a < b - mid then pdq ltInt (pdq ltInt d4 a mid lim true true) (mid + 1) b lim (decide (mid - a ≥ (b - a) / 8)) ap
            else pdq ltInt (pdq ltInt d4 (mid + 1) b lim true true) a mid lim (decide (b - mid ≥ (b - a) / 8)) ap
          else d4 := by
  subst hd1; subst hlim; subst hc; subst hd2; subst hpv; subst hh; subst hpi
  rw [pdq]
  simp only [h12, h0, if_false]
theorem parteq_range {d : Array Int} {a b pv : Nat} (h1 : a ≤ pv) (h2 : pv < b) (hb : b ≤ d.size) : a < (partitionEqual ltInt d a b pv).1 ∧ (partitionEqual ltInt d a b pv).1 ≤ b := by
  have hb0 : b ≤ (swp d a pv).size := by rw [Go.Sort.size_swp]; exact hb
  obtain ⟨r1, r2, _⟩ := Go.Sort.partEqLoop_spec ltInt a b _ (a + 1) (b - 1) (swp d a pv) (Nat.le_refl _) (Nat.lt_succ_self a) (by omega) (by omega) hb0 (fun t h1 h2 => by omega) (fun t h1 h2 => by omega)
  exact ⟨r1, r2⟩
theorem part_range {d : Array Int} {a b pv : Nat} (h1 : a ≤ pv) (h2 : pv < b) (hb : b ≤ d.size) : a ≤ (partition ltInt d a b pv).1 ∧ (partition ltInt d a b pv).1 < b := by
  obtain ⟨r1, r2, _⟩ := Go.Sort.partition_holds ltInt Go.Sort.swo_ltInt d a b pv h1 h2 hb
  exact ⟨r1, r2⟩
end Go.Proofs.Ytpcnbaddkblbhaa

namespace Go.Proofs.Ytpcnbaddkblbhaa
open Go.Vc
open Go.Sort (ltInt swp bitsLen Hint insertionSort heapSort breakPatterns choosePivot reverseRange partialInsertionSort partitionEqual partition pdq)
def PdqAt (w0 : World) (bb N cap a b limit : Nat) (D : Array Int) : Prop :=
  FnE PP w0 [] 69 [.slice (some ⟨bb, 0, none⟩) N cap, .int .i64 a, .int .i64 b, .int .i64 limit] [Dat 27 bb N cap D] (.tuple #[]) [Dat 27 bb N cap (pdq ltInt D a b limit true true)]
set_option maxHeartbeats 4000000
theorem pdq_spec (w0 : World) (bb N cap : Nat) (hN : N < 65536) : ∀ (m a b limit : Nat) (D : Array Int), b - a ≤ m → a ≤ b → b ≤ N → limit ≤ 1000 → D.size = N → PdqAt w0 bb N cap a b limit D := by
  intro m
  induction m with
  | zero =>
    intro a b limit D hm hab hb hl hD
    unfold PdqAt
    refine fn_of_run en69 fn69 rfl rfl rfl ?_
    repeat' (first | refine zck ?_ | refine zcp (by kernel_rfl) ?_ | refine zcl ?_ | (refine zap rfl ?_; first | ((with_reducible refine zcv ?_); refine zan rfl ?_)) | refine zch ?_)
    refine run_loop1 ?_
    repeat' (first | refine zck ?_ | refine zcp (by kernel_rfl) ?_ | refine zcl ?_ | (refine zap rfl ?_; first | ((with_reducible refine zcu ?_); refine zan rfl ?_) | ((with_reducible refine zcv ?_); refine zan rfl ?_) | ((with_reducible refine zcx ?_); refine zah [0] (ins_spec w0 bb N cap D a b (by omega) hab hb hD) rfl rfl rfl sub_nil rfl ?_) | ((with_reducible refine zda ?_); first | refine zbi rfl rfl (by omega) ?_ | refine zav rfl rfl (by omega) ?_)) | refine zch ?_ | refine zci rfl ?_)
    rw [pdq_small (by omega)]
    exact qret0 (fun _ _ h => h) rfl ⟨rfl, rfl⟩
  | succ m ih =>
    intro a b limit D hm hab hb hl hD
    unfold PdqAt
    refine fn_of_run en69 fn69 rfl rfl rfl ?_
    repeat' (first | refine zck ?_ | refine zcp (by kernel_rfl) ?_ | refine zcl ?_ | (refine zap rfl ?_; first | ((with_reducible refine zcv ?_); refine zan rfl ?_)) | refine zch ?_)
    refine run_loop (S := Nat × Nat × Nat × Bool × Bool × Array Int) (fun s => [(0, .slice (some ⟨bb, 0, none⟩) N cap), (1, .int .i64 s.1), (2, .int .i64 s.2.1), (3, .int .i64 s.2.2.1), (8, .bool s.2.2.2.1), (9, .bool s.2.2.2.2.1)])
      (fun s Γ => Γ = [Dat 27 bb N cap s.2.2.2.2.2] ∧ s.2.1 - s.1 ≤ m + 1 ∧ s.1 ≤ s.2.1 ∧ s.2.1 ≤ N ∧ s.2.2.1 ≤ 1000 ∧ s.2.2.2.2.2.size = N ∧ pdq ltInt s.2.2.2.2.2 s.1 s.2.1 s.2.2.1 s.2.2.2.1 s.2.2.2.2.1 = pdq ltInt D a b limit true true)
      (fun s => s.2.1 - s.1) (a, b, limit, true, true, D) ⟨rfl, rfl, rfl, rfl, rfl, rfl, trivial⟩ ⟨rfl, hm, hab, hb, hl, hD, rfl⟩ ?_
    generalize pdq ltInt D a b limit true true = RR
    clear hD hl hb hab hm D a b limit
    rintro ⟨a, b, limit, wb, wp, D⟩ Γ junk ⟨rfl, hm, hab, hb, hl, hD, hR⟩
    dsimp only at hm hab hb hl hD hR ⊢
    by_cases h12 : b - a ≤ 12
    · repeat' (first | refine zck ?_ | refine zcp (by kernel_rfl) ?_ | refine zcl ?_ | (refine zap rfl ?_; first | ((with_reducible refine zcu ?_); refine zan rfl ?_) | ((with_reducible refine zcv ?_); refine zan rfl ?_) | ((with_reducible refine zcx ?_); refine zah [0] (ins_spec w0 bb N cap D a b (by omega) hab hb hD) rfl rfl rfl sub_nil rfl ?_) | ((with_reducible refine zda ?_); first | refine zbi rfl rfl (by omega) ?_ | refine zav rfl rfl (by omega) ?_)) | refine zch ?_ | refine zci rfl ?_)
      rw [← hR, pdq_small h12]
      exact qret0 (fun _ _ h => h) rfl ⟨rfl, rfl⟩
    · by_cases h0 : limit = 0
      · subst h0
        repeat' (first | refine zck ?_ | refine zcp (by kernel_rfl) ?_ | refine zcm ?_ | refine zcl ?_ | (refine zap rfl ?_; first | ((with_reducible refine zcu ?_); refine zan rfl ?_) | ((with_reducible refine zcv ?_); refine zan rfl ?_) | ((with_reducible refine zcx ?_); refine zah [0] (heap_spec w0 bb N cap D a b (by omega) (by omega) hb hD) rfl rfl rfl sub_nil rfl ?_) | ((with_reducible refine zda ?_); first | refine zbc rfl rfl (by omega) ?_ | refine zbj rfl rfl (by omega) ?_ | refine zav rfl rfl (by omega) ?_)) | refine zch ?_ | refine zci rfl ?_ | refine zcj rfl ?_)
        rw [← hR, pdq_heap h12]
        exact qret0 (fun _ _ h => h) rfl ⟨rfl, rfl⟩
      · obtain ⟨d1, hd1⟩ : ∃ d1, d1 = if !wb then breakPatterns D a b else D := ⟨_, rfl⟩
        obtain ⟨lim, hlim⟩ : ∃ lim, lim = if !wb then limit - 1 else limit := ⟨_, rfl⟩
        have hlim1 : lim ≤ 1000 := by rw [hlim]; split <;> omega
        obtain ⟨c, hc⟩ : ∃ c, c = choosePivot ltInt d1 a b := ⟨_, rfl⟩
        have hcr : a ≤ c.1 ∧ c.1 < b := by rw [hc]; exact Go.Sort.choosePivot_holds ltInt d1 a b (by omega)
        obtain ⟨d2, hd2⟩ : ∃ d2, d2 = if c.2 = .decreasing then reverseRange d1 a b else d1 := ⟨_, rfl⟩
        obtain ⟨pv, hpv⟩ : ∃ pv, pv = if c.2 = .decreasing then (b - 1) - (c.1 - a) else c.1 := ⟨_, rfl⟩
        have hpr : a ≤ pv ∧ pv < b := by rw [hpv]; split <;> omega
        obtain ⟨hint, hh⟩ : ∃ hint, hint = if c.2 = .decreasing then .increasing else c.2 := ⟨_, rfl⟩
        obtain ⟨pi, hpi⟩ : ∃ pi, pi = if wb && wp && hint = .increasing then partialInsertionSort ltInt d2 a b else (d2, false) := ⟨_, rfl⟩
        rw [pdq_unf h12 h0 hd1 hlim hc hd2 hpv hh hpi] at hR
        repeat (first | refine zck ?_ | refine zcl ?_ | refine zcm ?_ | refine zcn ?_)
        first | refine zcp (by kernel_rfl) ?_ | refine zcq PP_mixed (by kernel_rfl) (by kernel_rfl) ?_
        repeat' (refine zap rfl ?_; first | ((with_reducible refine zcu ?_); refine zan rfl ?_) | ((with_reducible refine zcv ?_); refine zan rfl ?_) | ((with_reducible refine zda ?_); refine zav rfl rfl (by omega) ?_))
        all_goals refine zch ?_
        all_goals repeat (first | refine zck ?_ | refine zcl ?_ | refine zcm ?_ | refine zcn ?_)
        repeat (first | refine zck ?_ | refine zcl ?_ | refine zcm ?_ | refine zcn ?_)
        first | refine zcp (by kernel_rfl) ?_ | refine zcq PP_mixed (by kernel_rfl) (by kernel_rfl) ?_
        repeat' (refine zap rfl ?_; first | ((with_reducible refine zcu ?_); refine zan rfl ?_) | ((with_reducible refine zda ?_); refine zbj rfl rfl (by omega) ?_))
        all_goals refine zch ?_
        all_goals repeat (first | refine zck ?_ | refine zcl ?_ | refine zcm ?_ | refine zcn ?_)
        refine zcj rfl ?_
        refine zcm ?_
        repeat (first | refine zck ?_ | refine zcl ?_ | refine zcm ?_ | refine zcn ?_)
        first | refine zcp (by kernel_rfl) ?_ | refine zcq PP_mixed (by kernel_rfl) (by kernel_rfl) ?_
        repeat' (refine zap rfl ?_; first | ((with_reducible refine zcu ?_); refine zan rfl ?_) | ((with_reducible refine zda ?_); refine zbd rfl rfl (by omega) ?_))
        all_goals refine zch ?_
        all_goals repeat (first | refine zck ?_ | refine zcl ?_ | refine zcm ?_ | refine zcn ?_)
        refine zcj rfl ?_
        refine zcm ?_
        repeat (first | refine zck ?_ | refine zcl ?_ | refine zcm ?_ | refine zcn ?_)
        first | refine zcp (by kernel_rfl) ?_ | refine zcq PP_mixed (by kernel_rfl) (by kernel_rfl) ?_
        repeat' (refine zap rfl ?_; first | ((with_reducible refine zcu ?_); refine zan rfl ?_) | ((with_reducible refine zdb ?_); refine zbx rfl ?_))
        all_goals refine zch ?_
        all_goals repeat (first | refine zck ?_ | refine zcl ?_ | refine zcm ?_ | refine zcn ?_)
        refine run_bind_eq (l' := [(0, .slice (some ⟨bb, 0, none⟩) N cap), (1, .int .i64 a), (2, .int .i64 b), (3, .int .i64 lim), (8, .bool wb), (9, .bool wp), (10, .int .i64 ((b : Int) - (a : Int)))]) (Γ' := [Dat 27 bb N cap d1]) ?_ (fun junk => ?_)
        · cases wb with
          | false =>
            simp only [Bool.not_false, if_true] at hd1 hlim
            repeat' (first | refine zck ?_ | refine zcp (by kernel_rfl) ?_ | (refine zap rfl ?_; first | ((with_reducible refine zcu ?_); refine zan rfl ?_) | ((with_reducible refine zcv ?_); refine zan rfl ?_) | ((with_reducible refine zcx ?_); refine zah [0] (break_specE w0 bb N cap D a b hN (by omega) hb) rfl rfl rfl sub_nil rfl ?_) | ((with_reducible refine zda ?_); refine zav rfl rfl (by omega) ?_)) | refine zch ?_ | refine zci rfl ?_)
            refine cut_end ⟨rfl, ⟨rfl, rfl, rfl, int_eq (by omega), rfl, rfl, rfl, trivial⟩, by rw [hd1]; rfl⟩
          | true =>
            simp only [Bool.not_true, Bool.false_eq_true, if_false] at hd1 hlim
            repeat' (first | refine zcm ?_ | (refine zap rfl ?_; first | ((with_reducible refine zct ?_); first | refine zaj rfl ?_ | refine zak rfl ?_ | refine zal rfl ?_ | refine zam rfl rfl (fun _ => ?_) (fun _ => ?_))) | refine zcj rfl ?_)
            refine cut_end ⟨rfl, ⟨rfl, rfl, rfl, int_eq (by omega), rfl, rfl, rfl, trivial⟩, by rw [hd1]⟩
        refine run_dat 0 rfl (fun hs1 => ?_)
        have hC := choose_specE w0 bb N cap d1 a b (by omega) (by omega) hb
        rw [← hc] at hC
        repeat (first | refine zck ?_ | refine zcl ?_ | refine zcm ?_ | refine zcn ?_)
        first | refine zcp (by kernel_rfl) ?_ | refine zcq PP_mixed (by kernel_rfl) (by kernel_rfl) ?_
        repeat' (refine zap rfl ?_; first | ((with_reducible refine zcu ?_); refine zan rfl ?_) | ((with_reducible refine zcv ?_); refine zan rfl ?_) | ((with_reducible refine zcx ?_); refine zah [0] hC rfl rfl rfl sub_nil rfl ?_) | ((with_reducible refine zcz ?_); refine zan rfl ?_))
        all_goals refine zch ?_
        all_goals repeat (first | refine zck ?_ | refine zcl ?_ | refine zcm ?_ | refine zcn ?_)
        repeat (first | refine zck ?_ | refine zcl ?_ | refine zcm ?_ | refine zcn ?_)
        first | refine zcp (by kernel_rfl) ?_ | refine zcq PP_mixed (by kernel_rfl) (by kernel_rfl) ?_
        repeat' (refine zap rfl ?_; first | ((with_reducible refine zcu ?_); refine zan rfl ?_) | ((with_reducible refine zda ?_); refine zbo rfl rfl ?_))
        all_goals refine zch ?_
        all_goals repeat (first | refine zck ?_ | refine zcl ?_ | refine zcm ?_ | refine zcn ?_)
        refine run_bind_eq (l' := [(0, .slice (some ⟨bb, 0, none⟩) N cap), (1, .int .i64 a), (2, .int .i64 b), (3, .int .i64 lim), (8, .bool wb), (9, .bool wp), (10, .int .i64 ((b : Int) - (a : Int))), (11, .int .i64 pv), (12, .int .i64 (hintI hint))]) (Γ' := [Dat 27 bb N cap d2]) ?_ (fun junk => ?_)
        · refine run_cond rfl (fun hE => ?_) (fun hE => ?_)
          · have hE := hintI_two.1 hE
            rw [if_pos hE] at hd2 hpv hh
            repeat' (first | refine zck ?_ | refine zcp (by kernel_rfl) ?_ | (refine zap rfl ?_; first | ((with_reducible refine zcu ?_); refine zan rfl ?_) | ((with_reducible refine zcv ?_); refine zan rfl ?_) | ((with_reducible refine zcx ?_); refine zah [0] (rev_spec w0 bb N cap d1 a b (by omega) (by omega) hb hs1) rfl rfl rfl sub_nil rfl ?_) | ((with_reducible refine zda ?_); refine zav rfl rfl (by omega) ?_)) | refine zch ?_)
            refine cut_end ⟨rfl, ⟨rfl, rfl, rfl, rfl, rfl, rfl, rfl, int_eq (by omega), by rw [hh]; rfl, trivial⟩, by rw [hd2]; rfl⟩
          · have hE : ¬ c.2 = .decreasing := fun h => hE (hintI_two.2 h)
            rw [if_neg hE] at hd2 hpv hh
            repeat' (first | refine zcm ?_ | (refine zap rfl ?_; first | ((with_reducible refine zct ?_); first | refine zaj rfl ?_ | refine zak rfl ?_ | refine zal rfl ?_ | refine zam rfl rfl (fun _ => ?_) (fun _ => ?_))) | refine zch ?_)
            refine cut_end ⟨rfl, ⟨rfl, rfl, rfl, rfl, rfl, rfl, rfl, int_eq (by omega), by rw [hh]; rfl, trivial⟩, by rw [hd2]; rfl⟩
        refine run_dat 0 rfl (fun hs2 => ?_)
        have hP := partial_spec w0 bb N cap d2 a b (by omega) (by omega) hb
        by_cases hp2 : pi.2 = true
        · rw [if_pos hp2] at hR
          have hcnd : (wb && wp && decide (hint = .increasing)) = true := by
            cases hq : (wb && wp && decide (hint = .increasing)) with
            | true => rfl
            | false => rw [hq] at hpi; simp at hpi; rw [hpi] at hp2; cases hp2
          rw [if_pos hcnd] at hpi
          rw [← hpi, hp2] at hP
          simp only [Bool.and_eq_true, decide_eq_true_eq] at hcnd
          obtain ⟨⟨rfl, rfl⟩, rfl⟩ := hcnd
          repeat' (first | refine zck ?_ | refine zcp (by kernel_rfl) ?_ | (refine zap rfl ?_; first | ((with_reducible refine zct ?_); refine zaj rfl ?_) | ((with_reducible refine zcu ?_); refine zan rfl ?_) | ((with_reducible refine zcx ?_); refine zah [0] hP rfl rfl rfl sub_nil rfl ?_) | ((with_reducible refine zda ?_); refine zbo rfl rfl ?_) | ((with_reducible refine zdc ?_); refine zbu rfl ?_)) | refine zch ?_ | refine zci rfl ?_)
          rw [← hR]
          exact qret0 (fun _ _ h => h) rfl ⟨rfl, rfl⟩
        · have hp2 : pi.2 = false := by simpa using hp2
          rw [if_neg (by rw [hp2]; exact Bool.false_ne_true)] at hR
          repeat refine zck ?_
          refine run_bind_eq (l' := [(0, .slice (some ⟨bb, 0, none⟩) N cap), (1, .int .i64 a), (2, .int .i64 b), (3, .int .i64 lim), (8, .bool wb), (9, .bool wp), (10, .int .i64 ((b : Int) - (a : Int))), (11, .int .i64 pv), (68, .bool (wb && wp && decide (hint = .increasing)))]) (Γ' := [Dat 27 bb N cap d2]) ?_ (fun junk => ?_)
          · cases wb with
            | false =>
              repeat' (first | refine zcp (by kernel_rfl) ?_ | (refine zap rfl ?_; first | ((with_reducible refine zct ?_); refine zak rfl ?_) | ((with_reducible refine zcu ?_); refine zan rfl ?_) | ((with_reducible refine zdc ?_); refine zbv rfl ?_)) | refine zch ?_)
              refine cut_end ⟨rfl, ⟨rfl, rfl, rfl, rfl, rfl, rfl, rfl, rfl, rfl, trivial⟩, rfl⟩
            | true =>
              cases wp with
              | false =>
                repeat' (first | refine zcp (by kernel_rfl) ?_ | (refine zap rfl ?_; first | ((with_reducible refine zct ?_); first | refine zaj rfl ?_ | refine zak rfl ?_) | ((with_reducible refine zcu ?_); refine zan rfl ?_) | ((with_reducible refine zdc ?_); first | refine zbu rfl ?_ | refine zbv rfl ?_)) | refine zch ?_)
                refine cut_end ⟨rfl, ⟨rfl, rfl, rfl, rfl, rfl, rfl, rfl, rfl, rfl, trivial⟩, rfl⟩
              | true =>
                repeat' (first | refine zcp (by kernel_rfl) ?_ | (refine zap rfl ?_; first | ((with_reducible refine zct ?_); refine zaj rfl ?_) | ((with_reducible refine zcu ?_); refine zan rfl ?_) | ((with_reducible refine zda ?_); refine zbo rfl rfl ?_) | ((with_reducible refine zdc ?_); refine zbu rfl ?_)) | refine zch ?_)
                refine cut_end ⟨rfl, ⟨rfl, rfl, rfl, rfl, rfl, rfl, rfl, rfl, congrArg Value.bool (decide_eq_decide.2 hintI_one), trivial⟩, rfl⟩
          repeat refine zck ?_
          refine run_bind_eq (l' := [(0, .slice (some ⟨bb, 0, none⟩) N cap), (1, .int .i64 a), (2, .int .i64 b), (3, .int .i64 lim), (8, .bool wb), (9, .bool wp), (10, .int .i64 ((b : Int) - (a : Int))), (11, .int .i64 pv)]) (Γ' := [Dat 27 bb N cap pi.1]) ?_ (fun junk => ?_)
          · refine run_condV rfl (fun hE => ?_) (fun hE => ?_)
            · rw [if_pos hE] at hpi
              rw [← hpi, hp2] at hP
              repeat' (first | refine zck ?_ | refine zcp (by kernel_rfl) ?_ | refine zcm ?_ | (refine zap rfl ?_; first | ((with_reducible refine zcu ?_); refine zan rfl ?_) | ((with_reducible refine zcx ?_); refine zah [0] hP rfl rfl rfl sub_nil rfl ?_)) | refine zch ?_ | refine zcj rfl ?_)
              refine cut_end ⟨rfl, ⟨rfl, rfl, rfl, rfl, rfl, rfl, rfl, rfl, trivial⟩, rfl⟩
            · rw [if_neg (by rw [hE]; exact Bool.false_ne_true)] at hpi
              repeat' (first | refine zcm ?_ | (refine zap rfl ?_; first | ((with_reducible refine zct ?_); first | refine zaj rfl ?_ | refine zak rfl ?_ | refine zal rfl ?_ | refine zam rfl rfl (fun _ => ?_) (fun _ => ?_))) | refine zch ?_)
              refine cut_end ⟨rfl, ⟨rfl, rfl, rfl, rfl, rfl, rfl, rfl, rfl, trivial⟩, by rw [hpi]⟩
          refine run_dat 0 rfl (fun hs3 => ?_)
          obtain ⟨d3, hd3⟩ : ∃ d3, d3 = pi.1 := ⟨_, rfl⟩
          rw [← hd3] at hs3 hR ⊢
          clear hP hpi hp2 hd3 hC hc hcr hd1 hd2 hpv hh hs1 hs2
          repeat refine zck ?_
          refine run_bind_eq (l' := [(0, .slice (some ⟨bb, 0, none⟩) N cap), (1, .int .i64 a), (2, .int .i64 b), (3, .int .i64 lim), (8, .bool wb), (9, .bool wp), (10, .int .i64 ((b : Int) - (a : Int))), (11, .int .i64 pv), (87, .bool (decide (a > 0) && !ltInt d3[a - 1]! d3[pv]!))]) (Γ' := [Dat 27 bb N cap d3]) ?_ (fun junk => ?_)
          · by_cases ha0 : 0 < a
            · have e1 : ((a : Int) - 1).toNat = a - 1 := by omega
              have e2 : ((pv : Nat) : Int).toNat = pv := by omega
              repeat' (first | refine run_drawR PP_mixed (by kernel_rfl) (by kernel_rfl) ?_ | (refine zap rfl ?_; first | refine reg_load_d 0 rfl rfl (by omega) ?_ | ((with_reducible refine zct ?_); refine zaj rfl ?_) | ((with_reducible refine zcu ?_); refine zan rfl ?_) | ((with_reducible refine zcx ?_); refine zah [] (less_spec w0 _ _) rfl rfl rfl sub_nil rfl ?_) | ((with_reducible refine zda ?_); first | refine zbk rfl rfl (by omega) ?_ | refine zav rfl rfl (by omega) ?_) | ((with_reducible refine zdb ?_); refine zby rfl ?_) | ((with_reducible refine zdc ?_); refine zbu rfl ?_) | ((with_reducible refine zdf ?_); refine zas rfl rfl (by omega) ?_)) | refine zch ?_)
              refine cut_end ⟨rfl, ⟨rfl, rfl, rfl, rfl, rfl, rfl, rfl, rfl, ?_, trivial⟩, rfl⟩
              rw [decide_eq_true ha0, Bool.true_and]
              show Value.bool (decide (¬ d3[((a : Int) - 1).toNat]! < d3[((pv : Nat) : Int).toNat]!)) = _
              rw [e1, e2]; simp only [ltInt, decide_not]
            · repeat' (first | refine run_drawR PP_mixed (by kernel_rfl) (by kernel_rfl) ?_ | (refine zap rfl ?_; first | ((with_reducible refine zct ?_); refine zak rfl ?_) | ((with_reducible refine zcu ?_); refine zan rfl ?_) | ((with_reducible refine zda ?_); refine zbl rfl rfl (by omega) ?_) | ((with_reducible refine zdc ?_); refine zbv rfl ?_)) | refine zch ?_)
              refine cut_end ⟨rfl, ⟨rfl, rfl, rfl, rfl, rfl, rfl, rfl, rfl, ?_, trivial⟩, rfl⟩
              rw [decide_eq_false ha0]; rfl
          repeat refine zck ?_
          refine run_condV rfl (fun hE => ?_) (fun hE => ?_)
          · rw [if_pos hE] at hR
            have hq := parteq_range (d := d3) hpr.1 hpr.2 (by omega)
            have hS := partEq_spec w0 bb N cap d3 a b pv (by omega) hpr.1 hpr.2 hb hs3
            generalize partitionEqual ltInt d3 a b pv = q at hR hq hS
            obtain ⟨mid, d4⟩ := q
            dsimp only at hR hq hS
            rw [dif_pos hq] at hR
            repeat' (first | refine zck ?_ | refine zcp (by kernel_rfl) ?_ | refine zcs rfl ?_ | (refine zap rfl ?_; first | ((with_reducible refine zcu ?_); refine zan rfl ?_) | ((with_reducible refine zcv ?_); refine zan rfl ?_) | ((with_reducible refine zcx ?_); refine zah [0] hS rfl rfl rfl sub_nil rfl ?_)) | refine zch ?_)
            refine run_dat 0 rfl (fun hs4 => ?_)
            refine cut_end ⟨rfl, (mid, b, lim, wb, wp, d4), ⟨rfl, rfl, rfl, rfl, rfl, rfl, trivial⟩, ⟨rfl, by dsimp only; omega, by dsimp only; omega, hb, hlim1, hs4, hR⟩, by dsimp only; omega⟩
          · rw [if_neg (by rw [hE]; exact Bool.false_ne_true)] at hR
            have hq := part_range (d := d3) hpr.1 hpr.2 (by omega)
            have hS := part_spec w0 bb N cap d3 a b pv (by omega) hpr.1 hpr.2 hb hs3
            generalize partition ltInt d3 a b pv = q at hR hq hS
            obtain ⟨mid, ap, d4⟩ := q
            dsimp only at hR hq hS
            rw [dif_pos hq] at hR
            refine zcm ?_
            repeat (first | refine zck ?_ | refine zcl ?_ | refine zcm ?_ | refine zcn ?_)
            first | refine zcp (by kernel_rfl) ?_ | refine zcq PP_mixed (by kernel_rfl) (by kernel_rfl) ?_
            repeat' (refine zap rfl ?_; first | ((with_reducible refine zcu ?_); refine zan rfl ?_) | ((with_reducible refine zcv ?_); refine zan rfl ?_) | ((with_reducible refine zcx ?_); refine zah [0] hS rfl rfl rfl sub_nil rfl ?_) | ((with_reducible refine zcz ?_); refine zan rfl ?_))
            all_goals refine zch ?_
            all_goals repeat (first | refine zck ?_ | refine zcl ?_ | refine zcm ?_ | refine zcn ?_)
            refine run_dat 0 rfl (fun hs4 => ?_)
            by_cases hlt : mid - a < b - mid
            · rw [if_pos hlt] at hR
              have hI := ih a mid lim d4 (by omega) hq.1 (by omega) hlim1 hs4
              unfold PdqAt at hI
              repeat' (first | refine zck ?_ | refine zcp (by kernel_rfl) ?_ | refine zcn ?_ | (refine zap rfl ?_; first | ((with_reducible refine zcu ?_); refine zan rfl ?_) | ((with_reducible refine zcv ?_); refine zan rfl ?_) | ((with_reducible refine zcx ?_); refine zah [0] hI rfl rfl rfl sub_nil rfl ?_) | ((with_reducible refine zda ?_); first | refine zbg rfl rfl (by omega) ?_ | refine zau rfl rfl (by omega) ?_ | refine zav rfl rfl (by omega) ?_ | refine zbt rfl rfl ?_ | refine zax rfl rfl (by omega) ?_)) | refine zch ?_ | refine zci rfl ?_)
              refine run_dat 0 rfl (fun hs5 => ?_)
              refine cut_end ⟨rfl, (mid + 1, b, lim, decide (mid - a ≥ (b - a) / 8), ap, pdq ltInt d4 a mid lim true true), ⟨rfl, int_eq (by first | rfl | omega | (dsimp only; omega)), rfl, rfl, congrArg Value.bool (decide_eq_decide.2 (by omega)), rfl, trivial⟩, ⟨rfl, by dsimp only; omega, by dsimp only; omega, hb, hlim1, hs5, hR⟩, by dsimp only; omega⟩
            · rw [if_neg hlt] at hR
              have hI := ih (mid + 1) b lim d4 (by omega) (by omega) hb hlim1 hs4
              unfold PdqAt at hI
              repeat' (first | refine zck ?_ | refine zcp (by kernel_rfl) ?_ | refine zcn ?_ | (refine zap rfl ?_; first | ((with_reducible refine zcu ?_); refine zan rfl ?_) | ((with_reducible refine zcv ?_); refine zan rfl ?_) | ((with_reducible refine zcx ?_); refine zah [0] hI rfl rfl rfl sub_nil rfl ?_) | ((with_reducible refine zda ?_); first | refine zbh rfl rfl (by omega) ?_ | refine zau rfl rfl (by omega) ?_ | refine zav rfl rfl (by omega) ?_ | refine zbt rfl rfl ?_ | refine zax rfl rfl (by omega) ?_)) | refine zch ?_ | refine zcj rfl ?_)
              refine run_dat 0 rfl (fun hs5 => ?_)
              refine cut_end ⟨rfl, (a, mid, lim, decide (b - mid ≥ (b - a) / 8), ap, pdq ltInt d4 (mid + 1) b lim true true), ⟨rfl, rfl, int_eq (by first | rfl | omega | (dsimp only; omega)), rfl, congrArg Value.bool (decide_eq_decide.2 (by omega)), rfl, trivial⟩, ⟨rfl, by dsimp only; omega, hq.1, by dsimp only; omega, hlim1, hs5, hR⟩, by dsimp only; omega⟩
end Go.Proofs.Ytpcnbaddkblbhaa

namespace Go.Proofs.Ytpcnbaddkblbhaa
open Go.Vc
open Go.Sort (ltInt bitsLen pdq)
theorem ins_nil (w0 : World) (v : Value) : FnE PP w0 [] 79 [v, .int .i64 0, .int .i64 0] [] (.tuple #[]) [] := by
  refine fn_of_run en79 fn79 rfl rfl rfl ?_
  repeat' (first | refine zck ?_ | refine zcp (by kernel_rfl) ?_ | refine zcl ?_ | (refine zap rfl ?_; first | ((with_reducible refine zcu ?_); refine zan rfl ?_) | ((with_reducible refine zcv ?_); refine zan rfl ?_) | ((with_reducible refine zda ?_); refine zau rfl rfl (by omega) ?_)) | refine zch ?_)
  refine run_loop1 ?_
  repeat' (first | refine zck ?_ | refine zcp (by kernel_rfl) ?_ | refine zcs rfl ?_ | (refine zap rfl ?_; first | ((with_reducible refine zcu ?_); refine zan rfl ?_) | ((with_reducible refine zda ?_); refine zbh rfl rfl (by omega) ?_)) | refine zch ?_ | refine zcj rfl ?_)
  exact end_tmp0 rfl ⟨rfl, rfl⟩
theorem pdq_nil (w0 : World) (v : Value) (lim : Int) : FnE PP w0 [] 69 [v, .int .i64 0, .int .i64 0, .int .i64 lim] [] (.tuple #[]) [] := by
  refine fn_of_run en69 fn69 rfl rfl rfl ?_
  repeat' (first | refine zck ?_ | refine zcp (by kernel_rfl) ?_ | refine zcl ?_ | (refine zap rfl ?_; first | ((with_reducible refine zcv ?_); refine zan rfl ?_)) | refine zch ?_)
  refine run_loop1 ?_
  repeat' (first | refine zck ?_ | refine zcp (by kernel_rfl) ?_ | refine zcl ?_ | (refine zap rfl ?_; first | ((with_reducible refine zcu ?_); refine zan rfl ?_) | ((with_reducible refine zcv ?_); refine zan rfl ?_) | ((with_reducible refine zcx ?_); refine zah [] (ins_nil w0 _) rfl rfl rfl sub_nil rfl ?_) | ((with_reducible refine zda ?_); first | refine zbi rfl rfl (by omega) ?_ | refine zav rfl rfl (by omega) ?_)) | refine zch ?_ | refine zci rfl ?_)
  exact qret0 (fun _ _ h => h) rfl ⟨rfl, rfl⟩
/-- slices.Sort sorts. -/
theorem sort_spec (w0 : World) (a : Option Addr) (N cap : Nat) (l : List Int) (hN : N < 65536) (hl : l.length = N) :
    FnE PP w0 [] 52 [.slice a N cap] [SlA 27 1 a N cap (intsV l)] (.tuple #[]) [SlA 27 1 a N cap (intsV (l.mergeSort fun x y => decide (x ≤ y)))] := by
  refine fn_of_run en52 fn52 rfl rfl rfl ?_
  refine run_sl_cases 0 rfl ?_ ?_
  · intro h1 h2 h3 h4
    subst h1; subst h2; subst h3
    have hl0 : l = [] := List.eq_nil_of_length_eq_zero hl
    subst hl0
    repeat' (first | refine zck ?_ | refine zcp (by kernel_rfl) ?_ | (refine zap rfl ?_; first | refine reg_convN ((0 : Nat) : Int) rfl (by decide) ?_ | ((with_reducible refine zcu ?_); refine zan rfl ?_) | ((with_reducible refine zcv ?_); refine zan rfl ?_) | ((with_reducible refine zcx ?_); first | refine zah [] (blen_spec w0 0 (by omega)) rfl rfl rfl sub_nil rfl ?_ | refine zah [] (pdq_nil w0 _ _) rfl rfl rfl sub_nil rfl ?_ | refine zce rfl ?_)) | refine zch ?_)
    exact end_tmp0 rfl ⟨rfl, by rw [List.mergeSort_nil]; rfl⟩
  · intro nb h1 h2 h3
    subst h1
    have hb := (Go.Sort.bitsLen_le_iff N 16).2 (by omega)
    have hP := pdq_spec w0 nb N cap hN N 0 N (bitsLen N) l.toArray (by omega) (by omega) (Nat.le_refl _) (by omega) (by simpa using hl)
    unfold PdqAt at hP
    have hS := Go.Sort.sortInt l
    unfold Go.Sort.sort at hS
    rw [List.size_toArray, hl] at hS
    unfold Dat at hP
    rw [hS] at hP
    repeat' (first | refine zck ?_ | refine zcp (by kernel_rfl) ?_ | (refine zap rfl ?_; first | refine reg_convN ((N : Nat) : Int) rfl (by rw [IntKind.wrap_u64]; omega) ?_ | ((with_reducible refine zcu ?_); refine zan rfl ?_) | ((with_reducible refine zcv ?_); refine zan rfl ?_) | ((with_reducible refine zcx ?_); first | refine zah [] (blen_spec w0 N hN) rfl rfl rfl sub_nil rfl ?_ | refine zah [0] hP rfl rfl rfl sub_nil rfl ?_ | refine zce rfl ?_)) | refine zch ?_)
    exact end_tmp0 rfl ⟨rfl, rfl⟩
end Go.Proofs.Ytpcnbaddkblbhaa

/- Words, and the views of them: plain facts. -/
namespace Sim
open Go Go.Vc
def wk : Nat → List Int → List (Int × Wd)
  | _, [] => []
  | i, v :: r => ((i : Int), ⟨v, 0, 0⟩) :: wk (i + 1) r
theorem wk_length : ∀ (i : Nat) (l : List Int), (wk i l).length = l.length
  | _, [] => rfl
  | i, v :: r => by simp [wk, wk_length (i + 1) r]
theorem wk_get : ∀ (i : Nat) (l : List Int) (q : Nat), (wk i l)[q]? = (l[q]?).map fun v => (((i + q : Nat) : Int), ⟨v, 0, 0⟩)
  | _, [], q => by simp [wk]
  | i, v :: r, 0 => by simp [wk]
  | i, v :: r, q + 1 => by
    simp only [wk, List.getElem?_cons_succ, wk_get (i + 1) r q]
    congr 1; funext v; congr 2; omega
theorem wk_snoc : ∀ (i : Nat) (l : List Int) (v : Int), wk i (l ++ [v]) = wk i l ++ [(((i + l.length : Nat) : Int), ⟨v, 0, 0⟩)]
  | i, [], v => by simp [wk]
  | i, u :: r, v => by
    simp only [List.cons_append, wk, wk_snoc (i + 1) r v, List.length_cons]
    congr 4; omega
theorem lookW_wk : ∀ (i : Nat) (l : List Int) (a : Int), lookW (wk i l) a = if (i : Int) ≤ a ∧ a < i + l.length then (l[(a - i).toNat]?).map fun v => ⟨v, 0, 0⟩ else none
  | i, [], a => by simp [wk, lookW]
  | i, v :: r, a => by
    simp only [wk, lookW, lookW_wk (i + 1) r a]
    by_cases h : (i : Int) = a
    · subst h; simp; omega
    · rw [if_neg h]
      by_cases h2 : (i : Int) ≤ a ∧ a < i + ((v :: r).length : Nat)
      · rw [if_pos h2, if_pos (by simp only [List.length_cons] at h2; omega)]
        obtain ⟨k, hk⟩ : ∃ k : Nat, a = i + 1 + k := ⟨(a - i - 1).toNat, by omega⟩
        subst hk
        have e1 : ((i : Int) + 1 + k - ((i + 1 : Nat) : Int)).toNat = k := by omega
        have e2 : ((i : Int) + 1 + k - (i : Int)).toNat = k + 1 := by omega
        rw [e1, e2]; rfl
      · rw [if_neg h2, if_neg (by simp only [List.length_cons] at h2; omega)]
def insW : List (Int × Wd) → Int → Wd → List (Int × Wd)
  | [], x, u => [(x, u)]
  | (a, w) :: r, x, u => if a = x then (a, u) :: r else (a, w) :: insW r x u
theorem ins_knM : ∀ (l : List (Int × Wd)) (a : Int) (w : Wd), ins (knM l) a (wordV w) = knM (insW l a w)
  | [], _, _ => rfl
  | (b, u) :: r, a, w => by
    simp only [knM, ins, insW]
    by_cases h : b = a <;> simp [h, knM, ins_knM r a w]
theorem look_insW : ∀ (l : List (Int × Wd)) (a x : Int) (w : Wd), lookW (insW l a w) x = if a = x then some w else lookW l x
  | [], a, x, w => by simp [insW, lookW]
  | (b, u) :: r, a, x, w => by
    simp only [insW]
    by_cases h : b = a
    · subst h; by_cases h2 : b = x <;> simp [lookW, h2]
    · simp only [if_neg h, lookW, look_insW r a x w]
      by_cases h2 : b = x
      · subst h2; simp [Ne.symm h]
      · simp [h2]
theorem insW_none : ∀ (l : List (Int × Wd)) (a : Int) (w : Wd), lookW l a = none → insW l a w = l ++ [(a, w)]
  | [], _, _, _ => rfl
  | (b, u) :: r, a, w, h => by
    simp only [lookW] at h
    split at h
    · cases h
    · rename_i hb
      simp [insW, hb, insW_none r a w h]
theorem knM_length : ∀ (l : List (Int × Wd)), (knM l).length = l.length
  | [] => rfl
  | (_, _) :: r => by simp [knM, knM_length r]
theorem knM_get : ∀ (l : List (Int × Wd)) (q : Nat), (knM l)[q]? = (l[q]?).map fun p => (p.1, wordV p.2)
  | [], q => by simp [knM]
  | (a, w) :: r, 0 => by simp [knM]
  | (a, w) :: r, q + 1 => by simp only [knM, List.getElem?_cons_succ, knM_get r q]
theorem lookW_mem : ∀ (l : List (Int × Wd)) (a : Int) (w : Wd), lookW l a = some w → ∃ q : Nat, l[q]? = some (a, w)
  | [], a, w, h => by simp [lookW] at h
  | (b, u) :: r, a, w, h => by
    simp only [lookW] at h
    split at h
    · rename_i hb; subst hb; cases h; exact ⟨0, rfl⟩
    · obtain ⟨q, hq⟩ := lookW_mem r a w h; exact ⟨q + 1, hq⟩
end Sim

/- The walk of space.New. -/
namespace Go.Proofs.Ytpcnbaddkblbhaa
open Go.Vc Sim
set_option maxHeartbeats 4000000

def cnt : Nat → List Nat → Nat
  | 0, _ => 0
  | n + 1, s => cnt n s + if n ∈ s then 0 else 1
theorem cnt_more (q : Nat) (s : List Nat) (hs : q ∉ s) : ∀ n, (n ≤ q → cnt n (s ++ [q]) = cnt n s) ∧ (q < n → cnt n (s ++ [q]) + 1 = cnt n s)
  | 0 => ⟨fun _ => rfl, fun h => absurd h (by omega)⟩
  | n + 1 => by
    obtain ⟨h1, h2⟩ := cnt_more q s hs n
    simp only [cnt]
    refine ⟨fun h => ?_, fun h => ?_⟩
    · have hne : n ≠ q := by omega
      rw [h1 (by omega)]; simp [hne]
    · by_cases e : q = n
      · subst e; rw [h1 (Nat.le_refl _)]; simp [hs]
      · have := h2 (by omega)
        have e2 : (n ∈ s ++ [q]) = (n ∈ s) := by simp; intro h; omega
        simp only [e2]; omega

theorem new_spec (w0 : World) (kb : Nat) (kn : List (Int × Wd)) (hkn : ∀ (q : Nat) a w, kn[q]? = some (a, w) → lookW kn a = some w ∧ w.ref = 0) :
    Vc.Fn PP w0 [] 29 [.map (some kb)] [pt kb (mapI (knM kn))]
      (fun v Γ => ∃ p kn', v = spP p ∧ Γ = [SpaceA p ⟨kn', [], [], 0, false⟩] ∧ ∀ a, lookW kn' a = lookW kn a) := by
  refine fn_of_run en29 fn29 rfl rfl rfl ?_
  repeat (first | refine zck ?_ | refine zcl ?_ | refine zcm ?_ | refine zcn ?_)
  first | refine zcp (by kernel_rfl) ?_ | refine zcq PP_mixed (by kernel_rfl) (by kernel_rfl) ?_
  repeat' (refine zap rfl ?_; first | ((with_reducible refine zcv ?_); refine zan rfl ?_))
  all_goals refine zch ?_
  all_goals repeat (first | refine zck ?_ | refine zcl ?_ | refine zcm ?_ | refine zcn ?_)
  repeat (first | refine zck ?_ | refine zcl ?_ | refine zcm ?_ | refine zcn ?_)
  first | refine zcp (by kernel_rfl) ?_ | refine zcq PP_mixed (by kernel_rfl) (by kernel_rfl) ?_
  repeat' (refine zap rfl ?_; first | ((with_reducible refine zcv ?_); refine zan rfl ?_) | ((with_reducible refine zdg ?_); refine zaq (cs := [_, _, _, _, _]) rfl (fun nb => ?_)) | refine zcc (fun nb => ?_) | refine zcb rfl ?_)
  all_goals refine zch ?_
  all_goals repeat (first | refine zck ?_ | refine zcl ?_ | refine zcm ?_ | refine zcn ?_)
  rename_i m1 m2
  revert nb; intro p
  refine run_share_keep [3] rfl ?_
  repeat (first | refine zck ?_ | refine zcl ?_ | refine zcm ?_ | refine zcn ?_)
  first | refine zcp (by kernel_rfl) ?_ | refine zcq PP_mixed (by kernel_rfl) (by kernel_rfl) ?_
  repeat' (refine zap rfl ?_; first | refine reg_range 0 rfl rfl (fun nb => ?_) | ((with_reducible refine zcu ?_); refine zan rfl ?_))
  all_goals refine zch ?_
  all_goals repeat (first | refine zck ?_ | refine zcl ?_ | refine zcm ?_ | refine zcn ?_)
  revert nb; intro it
  refine run_loop (S := List (Int × Wd) × List Nat) (fun _ => [(3, spP p), (11, .pointer (some ⟨it, 0, none⟩))])
    (fun st Γ => Γ = [pt kb (mapI (knM kn)), pt m1 (mapI (knM st.1)), pt m2 (mapI []), pt it (iterI kb (knM kn).length st.2 (knM kn).length)] ∧ (∀ q ∈ st.2, ∀ a w, kn[q]? = some (a, w) → lookW st.1 a = some w) ∧ (∀ a w, lookW st.1 a = some w → lookW kn a = some w))
    (fun st => cnt kn.length st.2) ([], []) ⟨rfl, rfl, trivial⟩ ⟨rfl, by simp, by simp [lookW]⟩ ?_
  rintro ⟨kn', seen⟩ Γ junk ⟨rfl, h1, h2⟩
  dsimp only at h1 h2 ⊢
  repeat (first | refine zck ?_ | refine zcl ?_ | refine zcm ?_ | refine zcn ?_ | refine zco ?_)
  refine zcp (by kernel_rfl) ?_
  refine zap rfl ?_
  refine reg_next 3 0 rfl rfl (pt_know 0 rfl) rfl (fun _ => rfl) (fun hall => ?_) (fun q e hq hns => ?_)
  · repeat' (first | refine zck ?_ | (refine zap rfl ?_; first | ((with_reducible refine zcz ?_); refine zan rfl ?_)) | refine zch ?_ | refine zcj rfl ?_)
    refine cut_exit rfl rfl ?_
    repeat' (first | refine zck ?_ | refine zcp (by kernel_rfl) ?_ | (refine zap rfl ?_; first | ((with_reducible refine zcu ?_); refine zan rfl ?_) | ((with_reducible refine zcv ?_); refine zan rfl ?_)) | refine zch ?_)
    refine run_nilslice 104 2 ?_
    refine run_ret (leaves_nil (ends_close1 (A := SpaceA p ⟨kn', [], [], 0, false⟩) [5, 1, 1, 2] rfl (fun _ h => ⟨(m1, m2, none, 0), h⟩) (ends_one rfl rfl ⟨rfl, p, kn', rfl, rfl, fun a => ?_⟩)))
    cases hk : lookW kn a with
    | none =>
      cases hk' : lookW kn' a with
      | none => rfl
      | some w => have := h2 a w hk'; rw [hk] at this; cases this
    | some w =>
      obtain ⟨q, hq⟩ := lookW_mem kn a w hk
      have hql := (List.getElem?_eq_some_iff.1 hq).1
      exact h1 q (hall q (by rw [knM_length]; exact hql)) a w hq
  · rw [knM_get] at hq
    obtain ⟨⟨a, w⟩, hq2, rfl⟩ : ∃ aw, kn[q]? = some aw ∧ e = (aw.1, wordV aw.2) := by
      cases h : kn[q]? with
      | none => rw [h] at hq; cases hq
      | some aw => rw [h] at hq; exact ⟨aw, rfl, (Option.some.inj hq).symm⟩
    obtain ⟨hk1, hk2⟩ := hkn q a w hq2
    have hql := (List.getElem?_eq_some_iff.1 hq2).1
    have hq3 : (knM kn)[q]? = some (a, wordV w) := by rw [knM_get, hq2]; rfl
    repeat' (refine zap rfl ?_; first | ((with_reducible refine zcz ?_); refine zan rfl ?_))
    refine zch ?_
    repeat (first | refine zck ?_ | refine zcl ?_ | refine zcm ?_ | refine zcn ?_ | refine zco ?_)
    refine zci rfl ?_
    repeat (first | refine zck ?_ | refine zcl ?_ | refine zcm ?_ | refine zcn ?_ | refine zco ?_)
    repeat (first | refine zck ?_ | refine zcl ?_ | refine zcm ?_ | refine zcn ?_)
    first | refine zcp (by kernel_rfl) ?_ | refine zcq PP_mixed (by kernel_rfl) (by kernel_rfl) ?_
    repeat' (refine zap rfl ?_; first | refine reg_entry 3 rfl rfl (pt_know 0 rfl) hq3 ?_ | ((with_reducible refine zcv ?_); refine zan rfl ?_) | ((with_reducible refine zcz ?_); refine zan rfl ?_) | ((with_reducible refine zdd ?_); refine zae 4 rfl rfl rfl rfl rfl rfl rfl ?_) | ((with_reducible refine zdh ?_); refine zar (fun nb => ?_)))
    all_goals refine zch ?_
    all_goals repeat (first | refine zck ?_ | refine zcl ?_ | refine zcm ?_ | refine zcn ?_)
    refine run_share [4] rfl ?_
    repeat (first | refine zck ?_ | refine zcl ?_ | refine zcm ?_ | refine zcn ?_)
    first | refine zcp (by kernel_rfl) ?_ | refine zcq PP_mixed (by kernel_rfl) (by kernel_rfl) ?_
    repeat' (refine zap rfl ?_; first | ((with_reducible refine zcw ?_); refine zaa 0 rfl rfl rfl ?_) | ((with_reducible refine zcy ?_); refine zao rfl ?_) | ((with_reducible refine zda ?_); refine zbo rfl rfl ?_))
    all_goals refine zch ?_
    all_goals repeat (first | refine zck ?_ | refine zcl ?_ | refine zcm ?_ | refine zcn ?_)
    refine zci (bool_eq (decide_eq_true hk2)) ?_
    repeat' (first | refine zcq PP_mixed (by kernel_rfl) (by kernel_rfl) ?_ | refine zcn ?_ | (refine zap rfl ?_; first | refine reg_mapUpdate 1 rfl rfl rfl rfl rfl ?_ | ((with_reducible refine zcu ?_); refine zan rfl ?_) | ((with_reducible refine zcw ?_); first | refine zaa 0 rfl rfl rfl ?_ | refine zaa 1 rfl rfl rfl ?_) | ((with_reducible refine zcy ?_); refine zao rfl ?_) | ((with_reducible refine zde ?_); refine zan rfl ?_)) | refine zch ?_)
    refine cut_end ⟨rfl, (insW kn' a w, seen ++ [q]), ⟨rfl, rfl, trivial⟩, ⟨?_, ?_, ?_⟩, ?_⟩
    · show _ = [_, pt m1 (mapI (knM (insW kn' a w))), _, _]
      rw [← ins_knM]; rfl
    · intro q' hq' a' w' h
      rw [look_insW]
      rcases List.mem_append.1 hq' with hq' | hq'
      · have := h1 q' hq' a' w' h
        by_cases e : a = a'
        · subst e; rw [if_pos rfl]
          have := (hkn q' a w' h).1
          rw [hk1] at this; exact this
        · rw [if_neg e]; exact this
      · simp at hq'; subst hq'
        rw [hq2] at h; cases h; rw [if_pos rfl]
    · intro a' w' h
      rw [look_insW] at h
      by_cases e : a = a'
      · subst e; rw [if_pos rfl] at h; cases h; exact hk1
      · rw [if_neg e] at h; exact h2 a' w' h
    · have := (cnt_more q seen hns kn.length).2 hql
      dsimp only; omega
end Go.Proofs.Ytpcnbaddkblbhaa

/- Space.Reads. -/
namespace Go.Proofs.Ytpcnbaddkblbhaa
open Go.Vc Sim
theorem rdM_len : ∀ l : List Int, (rdM l).length = l.length
  | [] => rfl
  | _ :: l => by simp only [rdM, List.length_cons, rdM_len l]
theorem rdM_at : ∀ (l : List Int) (q : Nat), (rdM l)[q]? = (l[q]?).map fun a => (a, .bool true)
  | [], q => by simp [rdM]
  | a :: l, 0 => by simp [rdM]
  | a :: l, q + 1 => by simp only [rdM, List.getElem?_cons_succ, rdM_at l q]
def leI : Int → Int → Bool := fun x y => decide (x ≤ y)
theorem msort_perm {l l' : List Int} (h : l.Perm l') : l.mergeSort leI = l'.mergeSort leI := by
  have tr : ∀ a b c : Int, leI a b = true → leI b c = true → leI a c = true := fun a b c h1 h2 => by simp only [leI, decide_eq_true_eq] at *; omega
  have to : ∀ a b : Int, (leI a b || leI b a) = true := fun a b => by simp only [leI, Bool.or_eq_true, decide_eq_true_eq]; omega
  refine List.Perm.eq_of_pairwise (le := fun a b => leI a b = true) (fun a b _ _ h1 h2 => ?_) (List.pairwise_mergeSort tr to l) (List.pairwise_mergeSort tr to l') (((List.mergeSort_perm l leI).trans h).trans (List.mergeSort_perm l' leI).symm)
  simp only [leI, decide_eq_true_eq] at h1 h2
  omega
theorem seen_perm (l : List Int) (seen : List Nat) (out : List Int) (hnd : seen.Nodup) (hlt : ∀ q ∈ seen, q < l.length) (hall : ∀ q, q < l.length → q ∈ seen) (ho : out = seen.map fun q => l[q]!) : out.Perm l := by
  have h1 : seen.Perm (List.range l.length) := by
    rw [List.perm_ext_iff_of_nodup hnd List.nodup_range]
    intro q; rw [List.mem_range]; exact ⟨hlt q, hall q⟩
  have h2 : (List.range l.length).map (fun q => l[q]!) = l := by
    apply List.ext_getElem?
    intro i
    by_cases hi : i < l.length
    · simp [hi]
    · simp [hi]
  rw [ho]
  exact (h1.map _).trans (List.Perm.of_eq h2)
theorem cnt_nil : ∀ n, cnt n [] = n
  | 0 => rfl
  | n + 1 => by simp [cnt, cnt_nil n]
theorem cnt_all (s : List Nat) : ∀ n, (∀ q, q < n → q ∈ s) → cnt n s = 0
  | 0, _ => rfl
  | n + 1, h => by simp only [cnt, cnt_all s n (fun q hq => h q (by omega)), if_pos (h n (by omega))]
theorem rds_spec (w0 : World) (p : Nat) (s : Sp) (hlen : s.rd.length < 65536) :
    Vc.Fn PP w0 [] 30 [spP p] [SpaceA p s] fun v Γ => ∃ a cap, v = .slice a s.rd.length cap ∧ Γ = [SpaceA p s, SlA 27 1 a s.rd.length cap (intsV (s.rd.mergeSort leI))] := by
  refine fn_of_run en30 fn30 rfl rfl rfl ?_
  refine run_open [0] (SpaceParts p s) rfl (fun _ h => h) ?_
  rintro ⟨bk, br, sa, sc⟩
  refine run_nilslice 27 1 ?_
  repeat (first | refine zck ?_ | refine zcl ?_ | refine zcm ?_ | refine zcn ?_)
  first | refine zcp (by kernel_rfl) ?_ | refine zcq PP_mixed (by kernel_rfl) (by kernel_rfl) ?_
  repeat' (refine zap rfl ?_; first | ((with_reducible refine zcv ?_); refine zan rfl ?_))
  all_goals refine zch ?_
  all_goals repeat (first | refine zck ?_ | refine zcl ?_ | refine zcm ?_ | refine zcn ?_)
  repeat (first | refine zck ?_ | refine zcl ?_ | refine zcm ?_ | refine zcn ?_)
  first | refine zcp (by kernel_rfl) ?_ | refine zcq PP_mixed (by kernel_rfl) (by kernel_rfl) ?_
  repeat' (refine zap rfl ?_; first | ((with_reducible refine zcv ?_); refine zan rfl ?_))
  all_goals refine zch ?_
  all_goals repeat (first | refine zck ?_ | refine zcl ?_ | refine zcm ?_ | refine zcn ?_)
  repeat (first | refine zck ?_ | refine zcl ?_ | refine zcm ?_ | refine zcn ?_)
  first | refine zcp (by kernel_rfl) ?_ | refine zcq PP_mixed (by kernel_rfl) (by kernel_rfl) ?_
  repeat' (refine zap rfl ?_; first | ((with_reducible refine zcu ?_); refine zan rfl ?_) | ((with_reducible refine zda ?_); refine zaz rfl rfl ?_))
  all_goals refine zch ?_
  all_goals repeat (first | refine zck ?_ | refine zcl ?_ | refine zcm ?_ | refine zcn ?_)
  refine zcj rfl ?_
  refine zcm ?_
  repeat (first | refine zck ?_ | refine zcl ?_ | refine zcm ?_ | refine zcn ?_)
  first | refine zcp (by kernel_rfl) ?_ | refine zcq PP_mixed (by kernel_rfl) (by kernel_rfl) ?_
  repeat' (refine zap rfl ?_; first | refine reg_range 2 rfl rfl (fun nb => ?_) | ((with_reducible refine zcu ?_); refine zan rfl ?_) | ((with_reducible refine zcw ?_); refine zab 0 rfl rfl rfl ?_) | ((with_reducible refine zcy ?_); refine zao rfl ?_) | ((with_reducible refine zde ?_); refine zan rfl ?_))
  all_goals refine zch ?_
  all_goals repeat (first | refine zck ?_ | refine zcl ?_ | refine zcm ?_ | refine zcn ?_)
  refine run_loop (S := Option Addr × Nat × List Nat) (fun st => [(3, .slice st.1 st.2.2.length st.2.1), (12, .pointer (some ⟨nb, 0, none⟩))])
    (fun st Γ => Γ = SpaceParts p s (bk, br, sa, sc) ++ [SlA 27 1 st.1 st.2.2.length st.2.1 (intsV (st.2.2.map fun q => s.rd[q]!)), pt nb (iterI br (rdM s.rd).length st.2.2 (rdM s.rd).length)] ∧ st.2.2.Nodup ∧ (∀ q ∈ st.2.2, q < s.rd.length) ∧ cnt s.rd.length st.2.2 + st.2.2.length = s.rd.length)
    (fun st => cnt s.rd.length st.2.2) (none, 0, []) ⟨rfl, rfl, trivial⟩ ⟨rfl, List.nodup_nil, by simp, by simp [cnt_nil]⟩ ?_
  rintro ⟨a, cap, seen⟩ Γ junk ⟨rfl, h1, h2, h3⟩
  dsimp only at h1 h2 h3 ⊢
  repeat (first | refine zck ?_ | refine zcl ?_ | refine zcm ?_ | refine zcn ?_ | refine zco ?_)
  refine zcp (by kernel_rfl) ?_
  refine zap rfl ?_
  refine reg_next 5 2 rfl rfl (pt_know 2 rfl) rfl (fun _ => rfl) (fun hall => ?_) (fun q e hq hns => ?_)
  · repeat' (first | refine zck ?_ | (refine zap rfl ?_; first | ((with_reducible refine zcz ?_); refine zan rfl ?_)) | refine zch ?_ | refine zcj rfl ?_)
    refine cut_exit rfl rfl ?_
    have hn : seen.length = s.rd.length := by
      rw [rdM_len] at hall
      have := cnt_all seen s.rd.length hall
      omega
    have hperm := seen_perm s.rd seen _ h1 h2 (by rw [rdM_len] at hall; exact hall) rfl
    have hS := sort_spec w0 a s.rd.length cap (seen.map fun q => s.rd[q]!) hlen (by rw [List.length_map, hn])
    rw [hn]
    repeat' (first | refine zck ?_ | refine zcp (by kernel_rfl) ?_ | (refine zap rfl ?_; first | ((with_reducible refine zcu ?_); refine zan rfl ?_) | ((with_reducible refine zcv ?_); refine zan rfl ?_) | ((with_reducible refine zcx ?_); refine zah [4] hS rfl rfl rfl sub_nil rfl ?_)) | refine zch ?_)
    refine run_close (A := SpaceA p s) [1, 1, 1, 1] rfl (fun _ h => ⟨(bk, br, sa, sc), h⟩) ?_
    refine run_take [0, 0] rfl ?_
    refine ret_tmp1 rfl ⟨a, cap, rfl, ?_⟩
    rw [← msort_perm hperm]; rfl
  · rw [rdM_at] at hq
    obtain ⟨x, hx, rfl⟩ : ∃ x, s.rd[q]? = some x ∧ e = (x, .bool true) := by
      cases h : s.rd[q]? with
      | none => rw [h] at hq; cases hq
      | some x => rw [h] at hq; exact ⟨x, rfl, (Option.some.inj hq).symm⟩
    have hql := (List.getElem?_eq_some_iff.1 hx).1
    have hq3 : (rdM s.rd)[q]? = some (x, .bool true) := by rw [rdM_at, hx]; rfl
    repeat' (refine zap rfl ?_; first | ((with_reducible refine zcz ?_); refine zan rfl ?_))
    refine zch ?_
    repeat (first | refine zck ?_ | refine zcl ?_ | refine zcm ?_ | refine zcn ?_ | refine zco ?_)
    refine zci rfl ?_
    repeat (first | refine zck ?_ | refine zcl ?_ | refine zcm ?_ | refine zcn ?_ | refine zco ?_)
    repeat (first | refine zck ?_ | refine zcl ?_ | refine zcm ?_ | refine zcn ?_)
    first | refine zcp (by kernel_rfl) ?_ | refine zcq PP_mixed (by kernel_rfl) (by kernel_rfl) ?_
    repeat' (refine zap rfl ?_; first | refine reg_entry 5 rfl rfl (pt_know 2 rfl) hq3 ?_ | ((with_reducible refine zcv ?_); refine zan rfl ?_) | ((with_reducible refine zcz ?_); refine zan rfl ?_))
    all_goals refine zch ?_
    all_goals repeat (first | refine zck ?_ | refine zcl ?_ | refine zcm ?_ | refine zcn ?_)
    repeat' (first | refine zcp (by kernel_rfl) ?_ | refine zcn ?_ | (refine zap rfl ?_; first | refine reg_buildSlice rfl rfl rfl rfl rfl rfl (fun nb => ?_) | refine reg_append 4 6 rfl rfl rfl rfl rfl rfl rfl rfl (by omega) (fun _ _ => rfl) (fun a' cap' => ?_) | ((with_reducible refine zcu ?_); refine zan rfl ?_) | ((with_reducible refine zcv ?_); refine zan rfl ?_)) | refine zch ?_)
    refine run_take [0, 0, 0, 0, 0, 0] rfl ?_
    have hx2 : s.rd[q]! = x := by simp [List.getElem!_eq_getElem?_getD, hx]
    have e1 : (seen ++ [q]).length = seen.length + 1 := by simp
    have e2 : intsV ((seen ++ [q]).map fun q => s.rd[q]!) = intsV (seen.map fun q => s.rd[q]!) ++ [.int .i64 x] := by simp only [intsV, List.map_append, List.map_cons, List.map_nil, hx2]
    have e3 := (cnt_more q seen hns s.rd.length).2 hql
    refine cut_end ⟨rfl, (a', cap', seen ++ [q]), ⟨by dsimp only; rw [e1]; rfl, rfl, trivial⟩, ⟨?_, ?_, ?_, by dsimp only; omega⟩, by dsimp only; omega⟩
    · dsimp only; rw [e1, e2]; rfl
    · dsimp only
      rw [List.nodup_append]
      exact ⟨h1, by simp, by intro a ha b hb; simp at hb; subst hb; intro e; subst e; exact hns ha⟩
    · intro q' hq'
      rcases List.mem_append.1 hq' with h | h
      · exact h2 q' h
      · simp at h; subst h; exact hql
end Go.Proofs.Ytpcnbaddkblbhaa

/- Space.Entries. -/
namespace Go.Proofs.Ytpcnbaddkblbhaa
open Go.Vc Sim
theorem ints_rd {l : List Int} {i : Nat} {x : Int} (h : l[i]? = some x) (o : Nat) (ho : o = i) : rd false 1 (intsV l) o = some (.int .i64 x) :=
  rd_one (c := (intsV l).toArray) (o := i) (by simp [intsV, h]) o ho
theorem flatE_append : ∀ a b : List En, flatE (a ++ b) = flatE a ++ flatE b
  | [], _ => rfl
  | e :: a, b => by simp only [List.cons_append, flatE, flatE_append a b, List.append_assoc]
def oldW (s : Sp) (x : Int) : Wd := match lookW s.kn x with | some w => w | none => ⟨0, 0, 0⟩
def entE (s : Sp) (x : Int) : En := ⟨x, oldW s x, (s.value x).1, (s.value x).2⟩
def esOf (s : Sp) : List En := (s.rd.mergeSort leI).map (entE s)
def Sp.entries (s : Sp) : List En × Int :=
  if s.ended = true then ([], 13) else if (esOf s).length = 0 then ([], 0) else if checkI (esOf s) ≠ 0 then ([], checkI (esOf s)) else (esOf s, 0)
set_option maxHeartbeats 4000000
theorem ents_spec (w0 : World) (p : Nat) (s : Sp) (hlen : s.rd.length < 65536) (hp : s.puts.length ≤ 1099511627776) (hk : ∀ x w, lookW s.kn x = some w → w.ref = 0) :
    Vc.Fn PP w0 [] 40 [spP p] [SpaceA p s] fun v Γ => ∃ a cap, v = .tuple #[.slice a (Sp.entries s).1.length cap, .int .i64 (Sp.entries s).2] ∧ Γ = [SpaceA p s, EnA a cap (Sp.entries s).1] := by
  refine fn_of_run en40 fn40 rfl rfl rfl ?_
  unfold Sp.entries
  repeat' (first | refine zck ?_ | refine zcp (by kernel_rfl) ?_ | (refine zap rfl ?_; first | ((with_reducible refine zcu ?_); refine zan rfl ?_) | ((with_reducible refine zcv ?_); refine zan rfl ?_) | ((with_reducible refine zcx ?_); refine zah [0] (ended_spec w0 p s) rfl rfl rfl sub_nil rfl ?_)) | refine zch ?_)
  refine run_condV rfl (fun hE => ?_) (fun hE => ?_)
  · rw [if_pos hE]
    repeat' (first | refine zck ?_ | refine zcp (by kernel_rfl) ?_ | (refine zap rfl ?_; first | ((with_reducible refine zcv ?_); refine zan rfl ?_)) | refine zch ?_)
    refine run_nilslice 81 6 ?_
    exact ret_tmp2 rfl ⟨none, 0, rfl, rfl⟩
  · rw [if_neg (by rw [hE]; exact Bool.false_ne_true)]
    obtain ⟨L, hL⟩ : ∃ L, L = s.rd.mergeSort leI := ⟨_, rfl⟩
    obtain ⟨es, hes⟩ : ∃ es, es = esOf s := ⟨_, rfl⟩
    have hLn : L.length = s.rd.length := by rw [hL, List.length_mergeSort]
    have hen : es.length = s.rd.length := by rw [hes, esOf, List.length_map, ← hL, hLn]
    have heL : es = L.map (entE s) := by rw [hes, esOf, hL]
    have her : ∀ e ∈ es, e.old.ref = 0 := by
      intro e he
      rw [heL] at he
      obtain ⟨x, _, rfl⟩ := List.mem_map.1 he
      show (oldW s x).ref = 0
      unfold oldW
      cases h : lookW s.kn x with
      | none => rfl
      | some w => exact hk x w h
    rw [← hes]
    refine run_nilslice 81 6 ?_
    repeat (first | refine zck ?_ | refine zcl ?_ | refine zcm ?_ | refine zcn ?_)
    first | refine zcp (by kernel_rfl) ?_ | refine zcq PP_mixed (by kernel_rfl) (by kernel_rfl) ?_
    repeat' (refine zap rfl ?_; first | ((with_reducible refine zcv ?_); refine zan rfl ?_))
    all_goals refine zch ?_
    all_goals repeat (first | refine zck ?_ | refine zcl ?_ | refine zcm ?_ | refine zcn ?_)
    have hRd := rds_spec w0 p s hlen
    rw [← hL, ← hLn] at hRd
    repeat (first | refine zck ?_ | refine zcl ?_ | refine zcm ?_ | refine zcn ?_)
    first | refine zcp (by kernel_rfl) ?_ | refine zcq PP_mixed (by kernel_rfl) (by kernel_rfl) ?_
    repeat' (refine zap rfl ?_; first | (refine zai [0] hRd rfl rfl rfl sub_nil ?_; rintro v Γ' ⟨ra, rcap, rfl, rfl⟩) | ((with_reducible refine zcu ?_); refine zan rfl ?_) | ((with_reducible refine zcx ?_); refine zce rfl ?_))
    all_goals refine zch ?_
    all_goals repeat (refine zck ?_)
    refine run_perm (Γ' := [SpaceA p s, SlA 27 1 ra L.length rcap (intsV L), EnA none 0 []]) (List.Perm.refl _) ?_
    refine run_bind_eq2 (Γ' := fun st : Option Addr × Nat => [SpaceA p s, SlA 27 1 ra L.length rcap (intsV L), EnA st.1 st.2 es]) (l' := fun st => [(0, spP p), (4, .slice st.1 es.length st.2)]) ?_ (fun st junk => ?_)
    · refine zcl ?_
      refine run_loop (S := Option Addr × Nat × Nat) (fun st => [(0, spP p), (4, .slice st.1 (es.take st.2.2).length st.2.1), (13, .slice ra L.length rcap), (14, .int .i64 L.length), (15, .int .i64 st.2.2)])
        (fun st Γ => Γ = [SpaceA p s, SlA 27 1 ra L.length rcap (intsV L), EnA st.1 st.2.1 (es.take st.2.2)] ∧ st.2.2 ≤ es.length)
        (fun st => es.length - st.2.2) (none, 0, 0) ⟨rfl, rfl, rfl, rfl, rfl, trivial⟩ ⟨rfl, by dsimp only; omega⟩ ?_
      rintro ⟨a, cap, j⟩ Γ junk ⟨rfl, g1⟩
      dsimp only at g1 ⊢
      by_cases hj : j < es.length
      · obtain ⟨x, hx⟩ : ∃ x, L[j]? = some x := ⟨_, List.getElem?_eq_getElem (by omega)⟩
        have hex : es[j]? = some (entE s x) := by rw [heL, List.getElem?_map, hx]; rfl
        have hr := ints_rd hx
        have hlt : (es.take j).length = j := by simp; omega
        refine run_sl_cases 1 rfl (fun _ h _ _ => absurd h (by omega)) ?_
        intro bb k1 k2 k3
        subst k1
        have hw : (Vc.look (knM s.kn) x).getD (.agg #[.int .i64 0, .int .u32 0, .int .u32 0]) = .agg #[.int .i64 (oldW s x).val, .int .u32 (oldW s x).ver, .int .u32 (oldW s x).ref] := by
          rw [look_knM]
          unfold oldW
          cases lookW s.kn x with
          | none => rfl
          | some w => rfl
        repeat (first | refine zck ?_ | refine zcl ?_ | refine zcm ?_ | refine zcn ?_)
        first | refine zcp (by kernel_rfl) ?_ | refine zcq PP_mixed (by kernel_rfl) (by kernel_rfl) ?_
        repeat' (refine zap rfl ?_; first | ((with_reducible refine zda ?_); refine zbg rfl rfl (by omega) ?_))
        all_goals refine zch ?_
        all_goals repeat (first | refine zck ?_ | refine zcl ?_ | refine zcm ?_ | refine zcn ?_)
        refine zci rfl ?_
        repeat (first | refine zcm ?_ | refine zcl ?_ | refine zck ?_)
        repeat (first | refine zck ?_ | refine zcl ?_ | refine zcm ?_ | refine zcn ?_)
        first | refine zcp (by kernel_rfl) ?_ | refine zcq PP_mixed (by kernel_rfl) (by kernel_rfl) ?_
        repeat' (refine zap rfl ?_; first | refine zag 1 rfl rfl (hr _ (by omega)) (by intro h; cases h) ?_ | ((with_reducible refine zcv ?_); refine zan rfl ?_) | ((with_reducible refine zdf ?_); refine zas rfl rfl (by omega) ?_))
        all_goals refine zch ?_
        all_goals repeat (first | refine zck ?_ | refine zcl ?_ | refine zcm ?_ | refine zcn ?_)
        repeat (first | refine zck ?_ | refine zcl ?_ | refine zcm ?_ | refine zcn ?_)
        first | refine zcp (by kernel_rfl) ?_ | refine zcq PP_mixed (by kernel_rfl) (by kernel_rfl) ?_
        repeat' (refine zap rfl ?_; first | ((with_reducible refine zcu ?_); refine zan rfl ?_) | ((with_reducible refine zcv ?_); refine zan rfl ?_) | ((with_reducible refine zcx ?_); refine zah [0] (value_spec w0 p s x hp) rfl rfl rfl sub_nil rfl ?_) | ((with_reducible refine zcz ?_); refine zan rfl ?_))
        all_goals refine zch ?_
        all_goals repeat (first | refine zck ?_ | refine zcl ?_ | refine zcm ?_ | refine zcn ?_)
        refine run_open [0] (SpaceParts p s) rfl (fun _ h => h) ?_
        rintro ⟨bk, br, sa, sc⟩
        repeat (first | refine zck ?_ | refine zcl ?_ | refine zcm ?_ | refine zcn ?_)
        first | refine zcp (by kernel_rfl) ?_ | refine zcq PP_mixed (by kernel_rfl) (by kernel_rfl) ?_
        repeat' (refine zap rfl ?_; first | refine reg_lookup 1 rfl rfl rfl hw ?_ | refine zcb rfl ?_ | refine reg_buildSlice rfl rfl rfl rfl rfl rfl (fun nb => ?_) | refine reg_append 5 6 rfl rfl rfl rfl rfl rfl rfl rfl (by omega) (fun _ _ => rfl) (fun a' cap' => ?_) | ((with_reducible refine zcu ?_); refine zan rfl ?_) | ((with_reducible refine zcv ?_); refine zan rfl ?_) | ((with_reducible refine zcw ?_); refine zab 0 rfl rfl rfl ?_) | ((with_reducible refine zcy ?_); refine zao rfl ?_) | ((with_reducible refine zde ?_); refine zan rfl ?_))
        all_goals refine zch ?_
        all_goals repeat (first | refine zck ?_ | refine zcl ?_ | refine zcm ?_ | refine zcn ?_)
        refine run_close (A := SpaceA p s) [0, 0, 0, 0] rfl (fun _ h => ⟨(bk, br, sa, sc), h⟩) ?_
        refine run_take [0, 0, 0] rfl ?_
        have et : es.take (j + 1) = es.take j ++ [entE s x] := by rw [List.take_add_one, hex]; rfl
        have e1 : (es.take (j + 1)).length = (es.take j).length + 1 := by rw [et, List.length_append]; rfl
        repeat' (first | refine zcp (by kernel_rfl) ?_ | (refine zap rfl ?_; first | ((with_reducible refine zcu ?_); refine zan rfl ?_) | ((with_reducible refine zda ?_); refine zau rfl rfl (by omega) ?_)) | refine zch ?_)
        refine cut_end ⟨rfl, (a', cap', j + 1), ⟨rfl, by dsimp only; rw [e1]; rfl, rfl, rfl, int_eq (by dsimp only; omega), trivial⟩, ⟨?_, by dsimp only; omega⟩, by dsimp only; omega⟩
        dsimp only
        unfold EnA
        rw [e1, et, flatE_append]
        rfl
      · repeat' (first | refine zck ?_ | refine zcp (by kernel_rfl) ?_ | (refine zap rfl ?_; first | ((with_reducible refine zda ?_); refine zbh rfl rfl (by omega) ?_)) | refine zch ?_ | refine zcj rfl ?_)
        refine cut_exit rfl rfl ?_
        have ht : es.take j = es := List.take_of_length_le (by omega)
        rw [ht]
        refine cut_end ⟨rfl, (a, cap), ⟨rfl, rfl, trivial⟩, rfl⟩
    · obtain ⟨a, cap⟩ := st
      dsimp only
      by_cases hn : es.length = 0
      · rw [if_pos hn]
        repeat' (first | refine zck ?_ | refine zcp (by kernel_rfl) ?_ | (refine zap rfl ?_; first | ((with_reducible refine zcu ?_); refine zan rfl ?_) | ((with_reducible refine zcv ?_); refine zan rfl ?_) | ((with_reducible refine zcx ?_); refine zce rfl ?_) | ((with_reducible refine zda ?_); refine zbc rfl rfl (by omega) ?_)) | refine zch ?_ | refine zci rfl ?_)
        refine run_nilslice 81 6 ?_
        refine run_take [0, 2] rfl ?_
        exact ret_tmp2 rfl ⟨none, 0, rfl, rfl⟩
      · rw [if_neg hn]
        repeat' (first | refine zck ?_ | refine zcp (by kernel_rfl) ?_ | refine zcm ?_ | (refine zap rfl ?_; first | ((with_reducible refine zcu ?_); refine zan rfl ?_) | ((with_reducible refine zcv ?_); refine zan rfl ?_) | ((with_reducible refine zcx ?_); first | refine zah [2] (echeck_spec w0 a cap es her (by omega)) rfl rfl rfl sub_nil rfl ?_ | refine zce rfl ?_) | ((with_reducible refine zda ?_); first | refine zbd rfl rfl (by omega) ?_ | refine zbp rfl rfl ?_)) | refine zch ?_ | refine zcj rfl ?_)
        refine run_cond rfl (fun hE => ?_) (fun hE => ?_)
        · rw [if_pos hE]
          repeat' (first | refine zck ?_ | refine zcp (by kernel_rfl) ?_ | (refine zap rfl ?_; first | ((with_reducible refine zcu ?_); refine zan rfl ?_) | ((with_reducible refine zcv ?_); refine zan rfl ?_)) | refine zch ?_)
          refine run_nilslice 81 6 ?_
          refine run_take [1, 2] rfl ?_
          exact ret_tmp2 rfl ⟨none, 0, rfl, rfl⟩
        · rw [if_neg hE]
          repeat' (first | refine zck ?_ | refine zcp (by kernel_rfl) ?_ | refine zcm ?_ | (refine zap rfl ?_; first | ((with_reducible refine zcu ?_); refine zan rfl ?_) | ((with_reducible refine zcv ?_); refine zan rfl ?_)) | refine zch ?_)
          refine run_take [1, 0] rfl ?_
          exact ret_tmp2 rfl ⟨a, cap, rfl, rfl⟩
end Go.Proofs.Ytpcnbaddkblbhaa

/- slices.Compact at a slice of locations. -/
namespace Sim
open Go Go.Vc
theorem wr_int1 : ∀ (l : List Int) (k : Nat) (x : Int), k < l.length → wr [Value.int .i64 x] k (intsV l) = some (intsV (l.set k x))
  | [], k, x, h => by simp at h
  | y :: l, 0, x, _ => rfl
  | y :: l, k + 1, x, h => by
    have ih := wr_int1 l k x (by simpa using h)
    simp only [intsV, List.map_cons, wr, List.set_cons_succ] at ih ⊢
    rw [ih]
/-- The first `m` elements without those that stand behind their like. -/
def ddN (l : List Int) : Nat → List Int
  | 0 => []
  | 1 => l.take 1
  | m + 2 => if l[m + 1]? = l[m]? then ddN l (m + 1) else ddN l (m + 1) ++ (l[m + 1]?).toList
theorem ddN_le (l : List Int) : ∀ m, (ddN l m).length ≤ m
  | 0 => Nat.le_refl _
  | 1 => by simp [ddN]; omega
  | m + 2 => by
    have := ddN_le l (m + 1)
    simp only [ddN]
    split
    · omega
    · simp only [List.length_append]
      have : ((l[m + 1]?).toList).length ≤ 1 := by cases l[m + 1]? <;> simp
      omega
theorem ddN_mem (l : List Int) (x : Int) : ∀ m, x ∈ ddN l m ↔ x ∈ l.take m
  | 0 => by simp [ddN]
  | 1 => by simp [ddN]
  | m + 2 => by
    have ih := ddN_mem l x (m + 1)
    simp only [ddN]
    rw [List.take_add_one (i := m + 1), List.mem_append, ← ih]
    split
    · rename_i h
      rw [h]
      constructor
      · exact .inl
      · rintro (h2 | h2)
        · exact h2
        · rw [ih, List.take_add_one, List.mem_append]; exact .inr h2
    · rw [List.mem_append]
theorem ddN_pos (l : List Int) (h : 0 < l.length) : ∀ m, 1 ≤ m → 1 ≤ (ddN l m).length
  | 0, h1 => absurd h1 (by decide)
  | 1, _ => by simp [ddN]; omega
  | m + 2, _ => by
    have := ddN_pos l h (m + 1) (by omega)
    simp only [ddN]
    split
    · exact this
    · simp only [List.length_append]; omega
theorem ddN_small (l : List Int) (h : l.length < 2) : ddN l l.length = l := by
  match l, h with
  | [], _ => rfl
  | [a], _ => rfl
  | a :: b :: l, h => exact absurd h (by simp)
end Sim
namespace Go.Proofs.Ytpcnbaddkblbhaa
open Go.Vc Sim
set_option maxHeartbeats 4000000
theorem compact_spec (w0 : World) (a : Option Addr) (cap : Nat) (l : List Int) (hlen : l.length ≤ 1099511627776) :
    FnE PP w0 [] 53 [.slice a l.length cap] [SlA 27 1 a l.length cap (intsV l)] (.slice a (ddN l l.length).length cap) [SlA 27 1 a (ddN l l.length).length cap (intsV (ddN l l.length))] := by
  refine fn_of_run en53 fn53 rfl rfl rfl ?_
  by_cases h2 : l.length < 2
  · repeat' (first | refine zck ?_ | refine zcp (by kernel_rfl) ?_ | (refine zap rfl ?_; first | ((with_reducible refine zcu ?_); refine zan rfl ?_) | ((with_reducible refine zcv ?_); refine zan rfl ?_) | ((with_reducible refine zcx ?_); refine zce rfl ?_) | ((with_reducible refine zda ?_); refine zbg rfl rfl (by omega) ?_)) | refine zch ?_ | refine zci rfl ?_)
    rw [ddN_small l h2]
    exact ret_tmp1 rfl ⟨rfl, rfl⟩
  refine run_sl_cases 0 rfl (fun _ h _ _ => absurd h (by omega)) ?_
  intro bb q1 q2 q3
  subst q1
  repeat (first | refine zck ?_ | refine zcl ?_ | refine zcm ?_ | refine zcn ?_)
  first | refine zcp (by kernel_rfl) ?_ | refine zcq PP_mixed (by kernel_rfl) (by kernel_rfl) ?_
  repeat' (refine zap rfl ?_; first | ((with_reducible refine zcv ?_); refine zan rfl ?_))
  all_goals refine zch ?_
  all_goals repeat (first | refine zck ?_ | refine zcl ?_ | refine zcm ?_ | refine zcn ?_)
  repeat (first | refine zck ?_ | refine zcl ?_ | refine zcm ?_ | refine zcn ?_)
  first | refine zcp (by kernel_rfl) ?_ | refine zcq PP_mixed (by kernel_rfl) (by kernel_rfl) ?_
  repeat' (refine zap rfl ?_; first | ((with_reducible refine zcu ?_); refine zan rfl ?_) | ((with_reducible refine zcx ?_); refine zce rfl ?_) | ((with_reducible refine zda ?_); refine zbh rfl rfl (by omega) ?_))
  all_goals refine zch ?_
  all_goals repeat (first | refine zck ?_ | refine zcl ?_ | refine zcm ?_ | refine zcn ?_)
  refine zcj rfl ?_
  repeat (first | refine zck ?_ | refine zcl ?_ | refine zcm ?_ | refine zcn ?_)
  first | refine zcp (by kernel_rfl) ?_ | refine zcq PP_mixed (by kernel_rfl) (by kernel_rfl) ?_
  repeat' (refine zap rfl ?_; first | ((with_reducible refine zcv ?_); refine zan rfl ?_))
  all_goals refine zch ?_
  all_goals repeat (first | refine zck ?_ | refine zcl ?_ | refine zcm ?_ | refine zcn ?_)
  refine run_loop (S := Nat) (fun k => [(0, .slice (some ⟨bb, 0, none⟩) l.length cap), (3, .int .i64 (k : Int))])
    (fun k Γ => Γ = [SlA 27 1 (some ⟨bb, 0, none⟩) l.length cap (intsV l)] ∧ 1 ≤ k ∧ k ≤ l.length ∧ ddN l k = l.take k) (fun k => l.length - k) 1 ⟨rfl, rfl, trivial⟩ ⟨rfl, Nat.le_refl _, by omega, rfl⟩ ?_
  rintro k Γ junk ⟨rfl, k1, k2, k3⟩
  by_cases hlt : k < l.length
  · obtain ⟨x, hx⟩ : ∃ x, l[k]? = some x := ⟨_, List.getElem?_eq_getElem hlt⟩
    obtain ⟨y, hy⟩ : ∃ y, l[k - 1]? = some y := ⟨_, List.getElem?_eq_getElem (by omega)⟩
    have hrx := ints_rd hx
    have hry := ints_rd hy
    obtain ⟨k, rfl⟩ : ∃ m, k = m + 1 := ⟨k - 1, by omega⟩
    simp only [Nat.add_sub_cancel] at hy hry
    by_cases hxy : x = y
    · subst hxy
      have hdd : ddN l (k + 2) = ddN l (k + 1) := by rw [ddN, hx, hy, if_pos rfl]
      repeat (first | refine zck ?_ | refine zcl ?_ | refine zcm ?_ | refine zcn ?_)
      first | refine zcp (by kernel_rfl) ?_ | refine zcq PP_mixed (by kernel_rfl) (by kernel_rfl) ?_
      repeat' (refine zap rfl ?_; first | ((with_reducible refine zcu ?_); refine zan rfl ?_) | ((with_reducible refine zcx ?_); refine zce rfl ?_) | ((with_reducible refine zda ?_); refine zbg rfl rfl (by omega) ?_))
      all_goals refine zch ?_
      all_goals repeat (first | refine zck ?_ | refine zcl ?_ | refine zcm ?_ | refine zcn ?_)
      refine zci rfl ?_
      repeat (first | refine zck ?_ | refine zcl ?_ | refine zcm ?_ | refine zcn ?_)
      first | refine zcp (by kernel_rfl) ?_ | refine run_drawR PP_mixed (by kernel_rfl) (by kernel_rfl) ?_
      repeat' (refine zap rfl ?_; first | refine zag 0 rfl rfl (hrx _ (by omega)) (by intro h; cases h) ?_ | refine zag 0 rfl rfl (hry _ (by omega)) (by intro h; cases h) ?_ | ((with_reducible refine zcu ?_); refine zan rfl ?_) | ((with_reducible refine zda ?_); first | refine zbc rfl rfl (by omega) ?_ | refine zav rfl rfl (by omega) ?_) | ((with_reducible refine zdf ?_); refine zas rfl rfl (by omega) ?_))
      all_goals refine zch ?_
      all_goals repeat (first | refine zck ?_ | refine zcl ?_ | refine zcm ?_ | refine zcn ?_)
      refine zci rfl ?_
      repeat (first | refine zck ?_ | refine zcl ?_ | refine zcm ?_ | refine zcn ?_)
      first | refine zcp (by kernel_rfl) ?_ | refine zcq PP_mixed (by kernel_rfl) (by kernel_rfl) ?_
      repeat' (refine zap rfl ?_; first | refine reg_slice1 rfl rfl ⟨by omega, by omega⟩ (by omega) ?_ | ((with_reducible refine zcu ?_); refine zan rfl ?_) | ((with_reducible refine zcv ?_); refine zan rfl ?_))
      all_goals refine zch ?_
      all_goals repeat (first | refine zck ?_ | refine zcl ?_ | refine zcm ?_ | refine zcn ?_)
      repeat (first | refine zck ?_ | refine zcl ?_ | refine zcm ?_ | refine zcn ?_)
      first | refine zcp (by kernel_rfl) ?_ | refine zcq PP_mixed (by kernel_rfl) (by kernel_rfl) ?_
      repeat' (refine zap rfl ?_; first | ((with_reducible refine zcv ?_); refine zan rfl ?_))
      all_goals refine zch ?_
      all_goals repeat (refine zck ?_)
      refine run_bind_eq2 (σ := { C : List Int // C.length = l.length ∧ (ddN l l.length).length < l.length ∧ C.take (ddN l l.length).length = ddN l l.length })
        (l' := fun _ => [(0, .slice (some ⟨bb, 0, none⟩) l.length cap), (3, .int .i64 ((ddN l l.length).length : Int))]) (Γ' := fun st => [SlA 27 1 (some ⟨bb, 0, none⟩) l.length cap (intsV st.1)]) ?_ ?_
      · refine zcl ?_
        refine run_loop (S := Nat × List Int) (fun st => [(0, .slice (some ⟨bb, 0, none⟩) l.length cap), (3, .int .i64 ((ddN l (k + 1 + st.1)).length : Int)), (4, .slice (some ⟨bb, k + 1, none⟩) (l.length - (k + 1)) (cap - (k + 1))), (5, .int .i64 (st.1 : Int))])
          (fun st Γ => Γ = [SlA 27 1 (some ⟨bb, 0, none⟩) l.length cap (intsV st.2)] ∧ 1 ≤ st.1 ∧ k + 1 + st.1 ≤ l.length ∧ st.2.length = l.length ∧ (ddN l (k + 1 + st.1)).length < k + 1 + st.1 ∧
            st.2.take (ddN l (k + 1 + st.1)).length = ddN l (k + 1 + st.1) ∧ ∀ j, k + st.1 ≤ j → st.2[j]? = l[j]?) (fun st => l.length - st.1) (1, l)
          ⟨rfl, by dsimp only; rw [hdd, k3]; exact int_eq (by simp; omega), rfl, rfl, trivial⟩ ⟨rfl, Nat.le_refl _, by dsimp only; omega, rfl, by dsimp only; rw [hdd, k3]; simp; omega, by dsimp only; rw [hdd, k3]; simp, fun _ _ => rfl⟩ ?_
        rintro ⟨k2, C⟩ Γ junk ⟨rfl, g1, g2, g3, g4, g5, g6⟩
        dsimp only at g1 g2 g3 g4 g5 g6 ⊢
        generalize hK : (ddN l (k + 1 + k2)).length = K at g4 g5 ⊢
        have ek : k + 1 + (k2 + 1) = k + k2 + 2 := by omega
        have ek2 : k + k2 + 1 = k + 1 + k2 := by omega
        by_cases hl2 : k + 1 + k2 < l.length
        · obtain ⟨u, hu⟩ : ∃ u, l[k + k2 + 1]? = some u := ⟨_, List.getElem?_eq_getElem (by omega)⟩
          obtain ⟨v, hv⟩ : ∃ v, l[k + k2]? = some v := ⟨_, List.getElem?_eq_getElem (by omega)⟩
          have hru := ints_rd ((g6 (k + k2 + 1) (by omega)).trans hu)
          have hrv := ints_rd ((g6 (k + k2) (by omega)).trans hv)
          have hstep : ddN l (k + 1 + (k2 + 1)) = if u = v then ddN l (k + 1 + k2) else ddN l (k + 1 + k2) ++ [u] := by
            rw [ek, ddN, hu, hv, ek2]
            by_cases h : u = v
            · subst h; simp
            · simp [h]
          by_cases huv : u = v
          · subst huv
            rw [if_pos rfl] at hstep
            repeat' (first | refine zck ?_ | refine zcp (by kernel_rfl) ?_ | refine run_drawR PP_mixed (by kernel_rfl) (by kernel_rfl) ?_ | refine zcm ?_ | refine zcl ?_ | refine zcn ?_ | (refine zap rfl ?_; first | refine zag 0 rfl rfl (hru _ (by omega)) (by intro h; cases h) ?_ | refine zag 0 rfl rfl (hrv _ (by omega)) (by intro h; cases h) ?_ | ((with_reducible refine zcu ?_); refine zan rfl ?_) | ((with_reducible refine zcv ?_); refine zan rfl ?_) | ((with_reducible refine zcx ?_); refine zce rfl ?_) | ((with_reducible refine zda ?_); first | refine zbf rfl rfl (by omega) ?_ | refine zbg rfl rfl (by omega) ?_ | refine zau rfl rfl (by omega) ?_ | refine zav rfl rfl (by omega) ?_) | ((with_reducible refine zdf ?_); refine zas rfl rfl (by omega) ?_)) | refine zch ?_ | refine zci rfl ?_ | refine zcj rfl ?_)
            exact cut_end ⟨rfl, (k2 + 1, C), ⟨rfl, by dsimp only; rw [hstep, hK]; rfl, rfl, int_eq (by dsimp only; omega), trivial⟩, ⟨rfl, by dsimp only; omega, by dsimp only; omega, g3, by dsimp only; rw [hstep, hK]; omega, by dsimp only; rw [hstep, hK]; exact g5, fun j hj => g6 j (by dsimp only at hj; omega)⟩, by dsimp only; omega⟩
          · rw [if_neg huv] at hstep
            have hKc : K < C.length := by omega
            have hw := wr_int1 C K u hKc
            have hw2 : ∀ o, o = K → wr [Value.int .i64 u] o (intsV C) = some (intsV (C.set K u)) := fun o ho => ho ▸ hw
            repeat' (first | refine zck ?_ | refine zcp (by kernel_rfl) ?_ | refine run_drawR PP_mixed (by kernel_rfl) (by kernel_rfl) ?_ | refine zcm ?_ | refine zcl ?_ | refine zcn ?_ | (refine zap rfl ?_; first | refine zag 0 rfl rfl (hru _ (by omega)) (by intro h; cases h) ?_ | refine zag 0 rfl rfl (hrv _ (by omega)) (by intro h; cases h) ?_ | refine zaf 0 rfl rfl rfl rfl rfl (hw2 _ (by omega)) rfl ?_ | ((with_reducible refine zcu ?_); refine zan rfl ?_) | ((with_reducible refine zcv ?_); refine zan rfl ?_) | ((with_reducible refine zcx ?_); refine zce rfl ?_) | ((with_reducible refine zda ?_); first | refine zbe rfl rfl (by omega) ?_ | refine zbg rfl rfl (by omega) ?_ | refine zau rfl rfl (by omega) ?_ | refine zav rfl rfl (by omega) ?_) | ((with_reducible refine zdf ?_); refine zas rfl rfl (by omega) ?_)) | refine zch ?_ | refine zci rfl ?_)
            have hl3 : (ddN l (k + 1 + (k2 + 1))).length = K + 1 := by rw [hstep, List.length_append, hK]; rfl
            refine cut_end ⟨rfl, (k2 + 1, C.set K u), ⟨rfl, by dsimp only; rw [hl3]; exact int_eq (by omega), rfl, int_eq (by dsimp only; omega), trivial⟩, ⟨rfl, by dsimp only; omega, by dsimp only; omega, by simpa using g3, by dsimp only; rw [hl3]; omega, ?_, fun j hj => ?_⟩, by dsimp only; omega⟩
            · dsimp only
              rw [hl3, hstep, List.take_add_one, List.take_set_of_le (Nat.le_refl _), g5]
              simp [hKc]
            · dsimp only at hj ⊢
              rw [List.getElem?_set_ne (by omega)]
              exact g6 j (by omega)
        · repeat' (first | refine zck ?_ | refine zcp (by kernel_rfl) ?_ | (refine zap rfl ?_; first | ((with_reducible refine zcu ?_); refine zan rfl ?_) | ((with_reducible refine zcx ?_); refine zce rfl ?_) | ((with_reducible refine zda ?_); refine zbh rfl rfl (by omega) ?_)) | refine zch ?_ | refine zcj rfl ?_)
          refine cut_exit rfl rfl ?_
          have e : k + 1 + k2 = l.length := by omega
          rw [e] at g4 g5 hK
          rw [hK]
          exact cut_end ⟨rfl, ⟨C, g3, by omega, g5⟩, ⟨rfl, rfl, trivial⟩, rfl⟩
      · rintro ⟨C, c1, c2, c3⟩ junk
        dsimp only
        generalize hK : ddN l l.length = D at c2 c3 ⊢
        have hDl : C.length = l.length := c1
        repeat' (first | refine zck ?_ | refine zcp (by kernel_rfl) ?_ | (refine zap rfl ?_; first | refine reg_slice1 rfl rfl ⟨by omega, by omega⟩ (by omega) ?_ | refine reg_slice2 rfl rfl ⟨by omega, by omega⟩ ?_ | refine reg_clear 0 rfl rfl rfl rfl (by omega) rfl ?_ | ((with_reducible refine zcu ?_); refine zan rfl ?_) | ((with_reducible refine zcv ?_); refine zan rfl ?_)) | refine zch ?_)
        refine run_exch 0 (SlA 27 1 (some ⟨bb, 0, none⟩) D.length cap (intsV D)) rfl (fun g hg => ?_) rfl ?_
        · have h := SlA_cutc hg (q := D.length) (by omega)
          have e : (List.take D.length (intsV C) ++ List.replicate (l.length - D.length) (Value.int .i64 0) ++ List.drop (D.length + (l.length - D.length)) (intsV C)).take (D.length * 1) = intsV D := by
            have h1 : (List.take D.length (intsV C)).length = D.length := by simp [intsV]; omega
            rw [Nat.mul_one, List.append_assoc, List.take_append_of_le_length (by omega), List.take_take, Nat.min_self]
            rw [intsV, ← List.map_take, c3]; rfl
          rw [← e]
          exact h
        exact qret1 (fun _ _ h => h) rfl ⟨rfl, rfl⟩
    · repeat' (first | refine zck ?_ | refine zcp (by kernel_rfl) ?_ | refine run_drawR PP_mixed (by kernel_rfl) (by kernel_rfl) ?_ | refine zcm ?_ | refine zcl ?_ | refine zcn ?_ | (refine zap rfl ?_; first | refine zag 0 rfl rfl (hrx _ (by omega)) (by intro h; cases h) ?_ | refine zag 0 rfl rfl (hry _ (by omega)) (by intro h; cases h) ?_ | ((with_reducible refine zcu ?_); refine zan rfl ?_) | ((with_reducible refine zcv ?_); refine zan rfl ?_) | ((with_reducible refine zcx ?_); refine zce rfl ?_) | ((with_reducible refine zda ?_); first | refine zbd rfl rfl (by omega) ?_ | refine zbg rfl rfl (by omega) ?_ | refine zau rfl rfl (by omega) ?_ | refine zav rfl rfl (by omega) ?_) | ((with_reducible refine zdf ?_); refine zas rfl rfl (by omega) ?_)) | refine zch ?_ | refine zci rfl ?_ | refine zcj rfl ?_)
      refine cut_end ⟨rfl, k + 2, ⟨rfl, int_eq (by omega), trivial⟩, ⟨rfl, by omega, by omega, ?_⟩, by omega⟩
      rw [ddN, hx, hy, if_neg (by intro e; exact hxy (Option.some.inj e)), k3, List.take_add_one (i := k + 1), hx]
  · repeat' (first | refine zck ?_ | refine zcp (by kernel_rfl) ?_ | (refine zap rfl ?_; first | ((with_reducible refine zcu ?_); refine zan rfl ?_) | ((with_reducible refine zcx ?_); refine zce rfl ?_) | ((with_reducible refine zda ?_); refine zbh rfl rfl (by omega) ?_)) | refine zch ?_ | refine zcj rfl ?_)
    refine cut_exit rfl rfl ?_
    repeat' (first | refine zck ?_ | refine zcp (by kernel_rfl) ?_ | (refine zap rfl ?_; first | ((with_reducible refine zcu ?_); refine zan rfl ?_) | ((with_reducible refine zcv ?_); refine zan rfl ?_)) | refine zch ?_)
    have e : k = l.length := by omega
    subst e
    rw [k3, List.take_length]
    exact ret_tmp1 rfl ⟨rfl, rfl⟩
end Go.Proofs.Ytpcnbaddkblbhaa

/- Space.Writes. -/
namespace Sim
open Go Go.Vc
theorem flat_two : ∀ (l : List (Int × Int)) (k : Nat) (q : Int × Int), l[k]? = some q → rd true 2 (flat l) (k * 2) = some (.agg (List.toArray [.int .i64 q.1, .int .i64 q.2]))
  | [], k, q, h => by simp at h
  | (a, v) :: l, 0, q, h => by simp at h; subst h; rfl
  | (a, v) :: l, k + 1, q, h => by
    have e : (k + 1) * 2 = k * 2 + 1 + 1 := by omega
    simp only [List.getElem?_cons_succ] at h
    have ih := flat_two l k q h
    rw [e]
    exact ih
/-- The written locations, in order. -/
def Sp.writes (s : Sp) : List Int := let l := (s.puts.map (·.1)).mergeSort (fun x y => decide (x ≤ y)); ddN l l.length
theorem Sp.writes_nil {s : Sp} (h : s.puts = []) : s.writes = [] := by simp [Sp.writes, h, ddN]
theorem Sp.writes_mem {s : Sp} (x : Int) : x ∈ s.writes ↔ ∃ p ∈ s.puts, p.1 = x := by
  unfold Sp.writes
  simp only
  rw [ddN_mem, List.take_length, List.mem_mergeSort, List.mem_map]
theorem Sp.writes_len0 {s : Sp} : s.writes.length = 0 ↔ s.puts = [] := by
  constructor
  · intro h
    cases hp : s.puts with
    | nil => rfl
    | cons p l =>
      have : p.1 ∈ s.writes := (Sp.writes_mem _).2 ⟨p, by rw [hp]; simp, rfl⟩
      rw [List.length_eq_zero_iff.1 h] at this
      cases this
  · intro h; rw [Sp.writes_nil h]; rfl
end Sim
namespace Go.Proofs.Ytpcnbaddkblbhaa
open Go.Vc Sim
set_option maxHeartbeats 4000000
theorem writes_spec (w0 : World) (p : Nat) (s : Sp) (hlen : s.puts.length < 65536) :
    Vc.Fn PP w0 [] 31 [spP p] [SpaceA p s] fun v Γ => ∃ a cap, v = .slice a s.writes.length cap ∧ Γ = [SpaceA p s, SlA 27 1 a s.writes.length cap (intsV s.writes)] := by
  refine fn_of_run en31 fn31 rfl rfl rfl ?_
  refine run_open [0] (SpaceParts p s) rfl (fun _ h => h) ?_
  rintro ⟨bk, br, sa, sc⟩
  refine run_nilslice 27 1 ?_
  repeat (first | refine zck ?_ | refine zcl ?_ | refine zcm ?_ | refine zcn ?_)
  first | refine zcp (by kernel_rfl) ?_ | refine zcq PP_mixed (by kernel_rfl) (by kernel_rfl) ?_
  repeat' (refine zap rfl ?_; first | ((with_reducible refine zcu ?_); refine zan rfl ?_) | ((with_reducible refine zcv ?_); refine zan rfl ?_) | ((with_reducible refine zcw ?_); first | refine zaa 0 rfl rfl rfl ?_ | refine zaa 1 rfl rfl rfl ?_ | refine zaa 2 rfl rfl rfl ?_ | refine zaa 3 rfl rfl rfl ?_ | refine zaa 4 rfl rfl rfl ?_ | refine zaa 5 rfl rfl rfl ?_ | refine zab 0 rfl rfl rfl ?_ | refine zab 1 rfl rfl rfl ?_ | refine zab 2 rfl rfl rfl ?_ | refine zab 3 rfl rfl rfl ?_ | refine zab 4 rfl rfl rfl ?_ | refine zab 5 rfl rfl rfl ?_) | ((with_reducible refine zcx ?_); refine zce rfl ?_) | ((with_reducible refine zcy ?_); refine zao rfl ?_) | ((with_reducible refine zda ?_); first | refine reg_addZ rfl rfl (by omega) ?_ | refine zau rfl rfl (by omega) ?_ | refine zbo rfl rfl ?_ | refine zbq rfl rfl ?_ | refine zaz rfl rfl ?_ | refine zbb rfl rfl ?_) | ((with_reducible refine zdd ?_); first | refine zae 0 rfl rfl rfl rfl rfl rfl rfl ?_ | refine zae 1 rfl rfl rfl rfl rfl rfl rfl ?_ | refine zae 2 rfl rfl rfl rfl rfl rfl rfl ?_ | refine zae 3 rfl rfl rfl rfl rfl rfl rfl ?_ | refine zae 4 rfl rfl rfl rfl rfl rfl rfl ?_ | refine zae 5 rfl rfl rfl rfl rfl rfl rfl ?_) | ((with_reducible refine zde ?_); refine zan rfl ?_) | ((with_reducible refine zdf ?_); first | refine zas rfl rfl (by omega) ?_ | refine zat rfl rfl (by omega) ?_) | ((with_reducible refine zdh ?_); refine zar (fun nb => ?_)))
  all_goals refine zch ?_
  all_goals repeat (first | refine zck ?_ | refine zcl ?_ | refine zcm ?_ | refine zcn ?_)
  repeat (first | refine zck ?_ | refine zcl ?_ | refine zcm ?_ | refine zcn ?_)
  first | refine zcp (by kernel_rfl) ?_ | refine zcq PP_mixed (by kernel_rfl) (by kernel_rfl) ?_
  repeat' (refine zap rfl ?_; first | ((with_reducible refine zcu ?_); refine zan rfl ?_) | ((with_reducible refine zcv ?_); refine zan rfl ?_) | ((with_reducible refine zcw ?_); first | refine zaa 0 rfl rfl rfl ?_ | refine zaa 1 rfl rfl rfl ?_ | refine zaa 2 rfl rfl rfl ?_ | refine zaa 3 rfl rfl rfl ?_ | refine zaa 4 rfl rfl rfl ?_ | refine zaa 5 rfl rfl rfl ?_ | refine zab 0 rfl rfl rfl ?_ | refine zab 1 rfl rfl rfl ?_ | refine zab 2 rfl rfl rfl ?_ | refine zab 3 rfl rfl rfl ?_ | refine zab 4 rfl rfl rfl ?_ | refine zab 5 rfl rfl rfl ?_) | ((with_reducible refine zcx ?_); refine zce rfl ?_) | ((with_reducible refine zcy ?_); refine zao rfl ?_) | ((with_reducible refine zda ?_); first | refine reg_addZ rfl rfl (by omega) ?_ | refine zau rfl rfl (by omega) ?_ | refine zbo rfl rfl ?_ | refine zbq rfl rfl ?_ | refine zaz rfl rfl ?_ | refine zbb rfl rfl ?_) | ((with_reducible refine zdd ?_); first | refine zae 0 rfl rfl rfl rfl rfl rfl rfl ?_ | refine zae 1 rfl rfl rfl rfl rfl rfl rfl ?_ | refine zae 2 rfl rfl rfl rfl rfl rfl rfl ?_ | refine zae 3 rfl rfl rfl rfl rfl rfl rfl ?_ | refine zae 4 rfl rfl rfl rfl rfl rfl rfl ?_ | refine zae 5 rfl rfl rfl rfl rfl rfl rfl ?_) | ((with_reducible refine zde ?_); refine zan rfl ?_) | ((with_reducible refine zdf ?_); first | refine zas rfl rfl (by omega) ?_ | refine zat rfl rfl (by omega) ?_) | ((with_reducible refine zdh ?_); refine zar (fun nb => ?_)))
  all_goals refine zch ?_
  all_goals repeat (first | refine zck ?_ | refine zcl ?_ | refine zcm ?_ | refine zcn ?_)
  repeat (first | refine zck ?_ | refine zcl ?_ | refine zcm ?_ | refine zcn ?_)
  first | refine zcp (by kernel_rfl) ?_ | refine zcq PP_mixed (by kernel_rfl) (by kernel_rfl) ?_
  repeat' (refine zap rfl ?_; first | ((with_reducible refine zcu ?_); refine zan rfl ?_) | ((with_reducible refine zcv ?_); refine zan rfl ?_) | ((with_reducible refine zcw ?_); first | refine zaa 0 rfl rfl rfl ?_ | refine zaa 1 rfl rfl rfl ?_ | refine zaa 2 rfl rfl rfl ?_ | refine zaa 3 rfl rfl rfl ?_ | refine zaa 4 rfl rfl rfl ?_ | refine zaa 5 rfl rfl rfl ?_ | refine zab 0 rfl rfl rfl ?_ | refine zab 1 rfl rfl rfl ?_ | refine zab 2 rfl rfl rfl ?_ | refine zab 3 rfl rfl rfl ?_ | refine zab 4 rfl rfl rfl ?_ | refine zab 5 rfl rfl rfl ?_) | ((with_reducible refine zcx ?_); refine zce rfl ?_) | ((with_reducible refine zcy ?_); refine zao rfl ?_) | ((with_reducible refine zda ?_); first | refine reg_addZ rfl rfl (by omega) ?_ | refine zau rfl rfl (by omega) ?_ | refine zbo rfl rfl ?_ | refine zbq rfl rfl ?_ | refine zaz rfl rfl ?_ | refine zbb rfl rfl ?_) | ((with_reducible refine zdd ?_); first | refine zae 0 rfl rfl rfl rfl rfl rfl rfl ?_ | refine zae 1 rfl rfl rfl rfl rfl rfl rfl ?_ | refine zae 2 rfl rfl rfl rfl rfl rfl rfl ?_ | refine zae 3 rfl rfl rfl rfl rfl rfl rfl ?_ | refine zae 4 rfl rfl rfl rfl rfl rfl rfl ?_ | refine zae 5 rfl rfl rfl rfl rfl rfl rfl ?_) | ((with_reducible refine zde ?_); refine zan rfl ?_) | ((with_reducible refine zdf ?_); first | refine zas rfl rfl (by omega) ?_ | refine zat rfl rfl (by omega) ?_) | ((with_reducible refine zdh ?_); refine zar (fun nb => ?_)))
  all_goals refine zch ?_
  all_goals repeat (first | refine zck ?_ | refine zcl ?_ | refine zcm ?_ | refine zcn ?_)
  refine zcj rfl ?_
  refine zcm ?_
  repeat (first | refine zck ?_ | refine zcl ?_ | refine zcm ?_ | refine zcn ?_)
  first | refine zcp (by kernel_rfl) ?_ | refine zcq PP_mixed (by kernel_rfl) (by kernel_rfl) ?_
  repeat' (refine zap rfl ?_; first | ((with_reducible refine zcu ?_); refine zan rfl ?_) | ((with_reducible refine zcv ?_); refine zan rfl ?_) | ((with_reducible refine zcw ?_); first | refine zaa 0 rfl rfl rfl ?_ | refine zaa 1 rfl rfl rfl ?_ | refine zaa 2 rfl rfl rfl ?_ | refine zaa 3 rfl rfl rfl ?_ | refine zaa 4 rfl rfl rfl ?_ | refine zaa 5 rfl rfl rfl ?_ | refine zab 0 rfl rfl rfl ?_ | refine zab 1 rfl rfl rfl ?_ | refine zab 2 rfl rfl rfl ?_ | refine zab 3 rfl rfl rfl ?_ | refine zab 4 rfl rfl rfl ?_ | refine zab 5 rfl rfl rfl ?_) | ((with_reducible refine zcx ?_); refine zce rfl ?_) | ((with_reducible refine zcy ?_); refine zao rfl ?_) | ((with_reducible refine zda ?_); first | refine zbc rfl rfl (by omega) ?_ | refine zbd rfl rfl (by omega) ?_ | refine zbg rfl rfl (by omega) ?_ | refine zbh rfl rfl (by omega) ?_ | refine reg_addZ rfl rfl (by omega) ?_ | refine zau rfl rfl (by omega) ?_ | refine zbo rfl rfl ?_ | refine zbq rfl rfl ?_ | refine zaz rfl rfl ?_ | refine zbb rfl rfl ?_) | ((with_reducible refine zdd ?_); first | refine zae 0 rfl rfl rfl rfl rfl rfl rfl ?_ | refine zae 1 rfl rfl rfl rfl rfl rfl rfl ?_ | refine zae 2 rfl rfl rfl rfl rfl rfl rfl ?_ | refine zae 3 rfl rfl rfl rfl rfl rfl rfl ?_ | refine zae 4 rfl rfl rfl rfl rfl rfl rfl ?_ | refine zae 5 rfl rfl rfl rfl rfl rfl rfl ?_) | ((with_reducible refine zde ?_); refine zan rfl ?_) | ((with_reducible refine zdf ?_); first | refine zas rfl rfl (by omega) ?_ | refine zat rfl rfl (by omega) ?_) | ((with_reducible refine zdh ?_); refine zar (fun nb => ?_)))
  all_goals refine zch ?_
  all_goals repeat (refine zck ?_)
  refine zcl ?_
  refine run_loop (S := Option Addr × Nat × Nat) (fun st => [(3, .slice st.1 st.2.2 st.2.1), (12, .slice sa s.puts.length sc), (13, .int .i64 (s.puts.length : Int)), (14, .int .i64 (st.2.2 : Int))])
    (fun st Γ => Γ = SpaceParts p s (bk, br, sa, sc) ++ [SlA 27 1 st.1 st.2.2 st.2.1 (intsV ((s.puts.take st.2.2).map (·.1)))] ∧ st.2.2 ≤ s.puts.length)
    (fun st => s.puts.length - st.2.2) (none, 0, 0) ⟨rfl, rfl, rfl, rfl, trivial⟩ ⟨rfl, Nat.zero_le _⟩ ?_
  rintro ⟨a, cap, i⟩ Γ junk ⟨rfl, h1⟩
  dsimp only at h1 ⊢
  by_cases hlt : i < s.puts.length
  · obtain ⟨q, hq⟩ : ∃ q, s.puts[i]? = some q := ⟨_, List.getElem?_eq_getElem hlt⟩
    have hr : ∀ o, o = i * 2 → rd true 2 (flat s.puts) o = some (.agg (List.toArray [.int .i64 q.1, .int .i64 q.2])) := fun o ho => ho ▸ flat_two _ _ _ hq
    refine run_sl_cases 3 rfl (fun _ h _ _ => absurd h (by omega)) ?_
    intro bb k1 k2 k3
    subst k1
    repeat' (first | refine zck ?_ | refine zcp (by kernel_rfl) ?_ | refine zcq PP_mixed (by kernel_rfl) (by kernel_rfl) ?_ | refine zcm ?_ | refine zcl ?_ | refine zcn ?_ | refine zco ?_ | refine zcs rfl ?_ | (refine zap rfl ?_; first | refine zag 3 rfl rfl (hr _ (by omega)) (by intro _; decide) ?_ | refine reg_buildSlice rfl rfl rfl rfl rfl rfl (fun nb => ?_) | refine reg_append 4 6 rfl rfl rfl rfl rfl rfl rfl rfl (by omega) (fun _ _ => rfl) (fun a' cap' => ?_) | ((with_reducible refine zcu ?_); refine zan rfl ?_) | ((with_reducible refine zcv ?_); refine zan rfl ?_) | ((with_reducible refine zcw ?_); first | refine zaa 0 rfl rfl rfl ?_ | refine zaa 1 rfl rfl rfl ?_ | refine zaa 2 rfl rfl rfl ?_ | refine zaa 3 rfl rfl rfl ?_ | refine zaa 4 rfl rfl rfl ?_ | refine zaa 5 rfl rfl rfl ?_ | refine zab 0 rfl rfl rfl ?_ | refine zab 1 rfl rfl rfl ?_ | refine zab 2 rfl rfl rfl ?_ | refine zab 3 rfl rfl rfl ?_ | refine zab 4 rfl rfl rfl ?_ | refine zab 5 rfl rfl rfl ?_) | ((with_reducible refine zcx ?_); refine zce rfl ?_) | ((with_reducible refine zcy ?_); refine zao rfl ?_) | ((with_reducible refine zda ?_); first | refine zbc rfl rfl (by omega) ?_ | refine zbd rfl rfl (by omega) ?_ | refine zbg rfl rfl (by omega) ?_ | refine zbh rfl rfl (by omega) ?_ | refine reg_addZ rfl rfl (by omega) ?_ | refine zau rfl rfl (by omega) ?_ | refine zbo rfl rfl ?_ | refine zbq rfl rfl ?_ | refine zaz rfl rfl ?_ | refine zbb rfl rfl ?_) | ((with_reducible refine zdd ?_); first | refine zae 0 rfl rfl rfl rfl rfl rfl rfl ?_ | refine zae 1 rfl rfl rfl rfl rfl rfl rfl ?_ | refine zae 2 rfl rfl rfl rfl rfl rfl rfl ?_ | refine zae 3 rfl rfl rfl rfl rfl rfl rfl ?_ | refine zae 4 rfl rfl rfl rfl rfl rfl rfl ?_ | refine zae 5 rfl rfl rfl rfl rfl rfl rfl ?_) | ((with_reducible refine zde ?_); refine zan rfl ?_) | ((with_reducible refine zdf ?_); first | refine zas rfl rfl (by omega) ?_ | refine zat rfl rfl (by omega) ?_) | ((with_reducible refine zdh ?_); refine zar (fun nb => ?_))) | refine zch ?_ | refine zci rfl ?_ | refine zcj rfl ?_)
    refine run_take [0, 0, 0, 0, 0] rfl ?_
    have et : (s.puts.take (i + 1)).map (·.1) = (s.puts.take i).map (·.1) ++ [q.1] := by rw [List.take_add_one, hq]; simp
    refine cut_end ⟨rfl, (a', cap', i + 1), ⟨rfl, rfl, rfl, int_eq (by dsimp only; omega), trivial⟩, ⟨?_, hlt⟩, by dsimp only; omega⟩
    dsimp only
    rw [et]
    simp only [intsV, List.map_append]
    rfl
  · have e : i = s.puts.length := by omega
    subst e
    rw [List.take_length]
    have hS := sort_spec w0 a s.puts.length cap (s.puts.map (·.1)) hlen (by rw [List.length_map])
    generalize hL : (s.puts.map (·.1)).mergeSort (fun x y => decide (x ≤ y)) = L at hS
    have hLl : L.length = s.puts.length := by rw [← hL, List.length_mergeSort, List.length_map]
    have hw : s.writes = ddN L L.length := by unfold Sp.writes; simp only [hL]
    have hC := compact_spec w0 a cap L (by omega)
    rw [hLl] at hC
    repeat' (first | refine zck ?_ | refine zcp (by kernel_rfl) ?_ | refine zcq PP_mixed (by kernel_rfl) (by kernel_rfl) ?_ | refine zcm ?_ | refine zcl ?_ | refine zcn ?_ | refine zco ?_ | refine zcs rfl ?_ | (refine zap rfl ?_; first | ((with_reducible refine zcu ?_); refine zan rfl ?_) | ((with_reducible refine zcv ?_); refine zan rfl ?_) | ((with_reducible refine zcw ?_); first | refine zaa 0 rfl rfl rfl ?_ | refine zaa 1 rfl rfl rfl ?_ | refine zaa 2 rfl rfl rfl ?_ | refine zaa 3 rfl rfl rfl ?_ | refine zaa 4 rfl rfl rfl ?_ | refine zaa 5 rfl rfl rfl ?_ | refine zab 0 rfl rfl rfl ?_ | refine zab 1 rfl rfl rfl ?_ | refine zab 2 rfl rfl rfl ?_ | refine zab 3 rfl rfl rfl ?_ | refine zab 4 rfl rfl rfl ?_ | refine zab 5 rfl rfl rfl ?_) | ((with_reducible refine zcx ?_); refine zce rfl ?_) | ((with_reducible refine zcy ?_); refine zao rfl ?_) | ((with_reducible refine zda ?_); first | refine zbc rfl rfl (by omega) ?_ | refine zbd rfl rfl (by omega) ?_ | refine zbg rfl rfl (by omega) ?_ | refine zbh rfl rfl (by omega) ?_ | refine reg_addZ rfl rfl (by omega) ?_ | refine zau rfl rfl (by omega) ?_ | refine zbo rfl rfl ?_ | refine zbq rfl rfl ?_ | refine zaz rfl rfl ?_ | refine zbb rfl rfl ?_) | ((with_reducible refine zdd ?_); first | refine zae 0 rfl rfl rfl rfl rfl rfl rfl ?_ | refine zae 1 rfl rfl rfl rfl rfl rfl rfl ?_ | refine zae 2 rfl rfl rfl rfl rfl rfl rfl ?_ | refine zae 3 rfl rfl rfl rfl rfl rfl rfl ?_ | refine zae 4 rfl rfl rfl rfl rfl rfl rfl ?_ | refine zae 5 rfl rfl rfl rfl rfl rfl rfl ?_) | ((with_reducible refine zde ?_); refine zan rfl ?_) | ((with_reducible refine zdf ?_); first | refine zas rfl rfl (by omega) ?_ | refine zat rfl rfl (by omega) ?_) | ((with_reducible refine zdh ?_); refine zar (fun nb => ?_))) | refine zch ?_ | refine zci rfl ?_ | refine zcj rfl ?_)
    refine cut_exit rfl rfl ?_
    repeat' (first | refine zck ?_ | refine zcp (by kernel_rfl) ?_ | refine zcq PP_mixed (by kernel_rfl) (by kernel_rfl) ?_ | refine zcm ?_ | refine zcl ?_ | refine zcn ?_ | refine zco ?_ | refine zcs rfl ?_ | (refine zap rfl ?_; first | ((with_reducible refine zcu ?_); refine zan rfl ?_) | ((with_reducible refine zcv ?_); refine zan rfl ?_) | ((with_reducible refine zcw ?_); first | refine zaa 0 rfl rfl rfl ?_ | refine zaa 1 rfl rfl rfl ?_ | refine zaa 2 rfl rfl rfl ?_ | refine zaa 3 rfl rfl rfl ?_ | refine zaa 4 rfl rfl rfl ?_ | refine zaa 5 rfl rfl rfl ?_ | refine zab 0 rfl rfl rfl ?_ | refine zab 1 rfl rfl rfl ?_ | refine zab 2 rfl rfl rfl ?_ | refine zab 3 rfl rfl rfl ?_ | refine zab 4 rfl rfl rfl ?_ | refine zab 5 rfl rfl rfl ?_) | ((with_reducible refine zcx ?_); first | refine zah [4] hS rfl rfl rfl sub_nil rfl ?_ | refine zah [0] hC rfl rfl rfl sub_nil rfl ?_ | refine zce rfl ?_) | ((with_reducible refine zcy ?_); refine zao rfl ?_) | ((with_reducible refine zda ?_); first | refine zbc rfl rfl (by omega) ?_ | refine zbd rfl rfl (by omega) ?_ | refine zbg rfl rfl (by omega) ?_ | refine zbh rfl rfl (by omega) ?_ | refine reg_addZ rfl rfl (by omega) ?_ | refine zau rfl rfl (by omega) ?_ | refine zbo rfl rfl ?_ | refine zbq rfl rfl ?_ | refine zaz rfl rfl ?_ | refine zbb rfl rfl ?_) | ((with_reducible refine zdd ?_); first | refine zae 0 rfl rfl rfl rfl rfl rfl rfl ?_ | refine zae 1 rfl rfl rfl rfl rfl rfl rfl ?_ | refine zae 2 rfl rfl rfl rfl rfl rfl rfl ?_ | refine zae 3 rfl rfl rfl rfl rfl rfl rfl ?_ | refine zae 4 rfl rfl rfl rfl rfl rfl rfl ?_ | refine zae 5 rfl rfl rfl rfl rfl rfl rfl ?_) | ((with_reducible refine zde ?_); refine zan rfl ?_) | ((with_reducible refine zdf ?_); first | refine zas rfl rfl (by omega) ?_ | refine zat rfl rfl (by omega) ?_) | ((with_reducible refine zdh ?_); refine zar (fun nb => ?_))) | refine zch ?_ | refine zci rfl ?_ | refine zcj rfl ?_)
    refine run_close (A := SpaceA p s) [1, 1, 1, 1] rfl (fun _ h => ⟨(bk, br, sa, sc), h⟩) ?_
    refine ret_tmp1 rfl ⟨a, cap, ?_, ?_⟩
    · rw [hw, hLl]; rfl
    · rw [hw, hLl]
end Go.Proofs.Ytpcnbaddkblbhaa

/- The walks of package forest: node, cell, place, many, check, take, add. -/
namespace Go.Proofs.Ytpcnbaddkblbhaa
open Go.Vc Sim
set_option maxHeartbeats 4000000
def foV (F : Fo) : Value := .agg #[.int .i64 F.pool.root, .int .i64 F.pool.frm, .int .i64 F.pool.nodes, .int .i64 F.root]
theorem _root_.Sim.Fo.nodeN_bd (v : Int) : 0 ≤ Fo.nodeN v ∧ Fo.nodeN v ≤ 4096 := by unfold Fo.nodeN; split <;> omega
theorem foNode (w0 : World) (F : Fo) (hF : F.Ok) (v : Int) : FnE PP w0 [] 67 [foV F, .int .i64 v] [] (.tuple #[.int .i64 (Fo.nodeN v), .bool (F.nodeB v)]) [] := by
  refine fn_of_run en67 fn67 rfl rfl rfl ?_
  repeat (first | refine zck ?_ | refine zcl ?_ | refine zcm ?_ | refine zcn ?_)
  first | refine zcp (by kernel_rfl) ?_ | refine zcq PP_mixed (by kernel_rfl) (by kernel_rfl) ?_
  repeat' (refine zap rfl ?_; first | ((with_reducible refine zcv ?_); refine zan rfl ?_) | ((with_reducible refine zdg ?_); refine zaq (cs := [_, _, _, _]) rfl (fun nb => ?_)))
  all_goals refine zch ?_
  all_goals repeat (first | refine zck ?_ | refine zcl ?_ | refine zcm ?_ | refine zcn ?_)
  refine run_share [0] rfl ?_
  repeat' (first | refine zck ?_ | refine zcp (by kernel_rfl) ?_ | refine zcm ?_ | (refine zap rfl ?_; first | ((with_reducible refine zct ?_); first | refine zaj rfl ?_ | refine zak rfl ?_ | refine zam rfl rfl (fun _ => ?_) (fun _ => ?_)) | ((with_reducible refine zcu ?_); refine zan rfl ?_) | ((with_reducible refine zcv ?_); refine zan rfl ?_) | ((with_reducible refine zcw ?_); refine zaa 0 rfl rfl rfl ?_) | ((with_reducible refine zcx ?_); refine zah [] (node_spec w0 F.pool hF.1 _) rfl rfl rfl sub_nil rfl ?_) | ((with_reducible refine zcy ?_); refine zao rfl ?_) | ((with_reducible refine zcz ?_); refine zan rfl ?_) | ((with_reducible refine zda ?_); first | refine zbr rfl rfl ?_ | refine zbs rfl rfl ?_) | ((with_reducible refine zdc ?_); first | refine zbu rfl ?_ | refine zbv rfl ?_)) | refine zch ?_ | refine zci rfl ?_ | refine run_cond rfl (fun _ => ?_) (fun _ => ?_))
  all_goals refine ret_tmp2 rfl ⟨?_, rfl⟩
  all_goals unfold Fo.nodeN Fo.nodeB
  all_goals first | rw [if_pos (by omega), if_pos (by omega)] | rw [if_neg (by omega), if_neg (by omega)]
  all_goals rfl
theorem foCell (w0 : World) (p : Nat) (F : Fo) (hF : F.Ok) (x : Int) (hx : 1 ≤ x ∧ x ≤ 9223372036854775807) : FnG w0 [] 66 [foV F, spP p, .int .i64 x] p (F.cell x) encIB := by
  obtain ⟨_, h1, h2⟩ := id hF
  intro s hS; have hG := At.start hS; generalize Pg.run _ s = R at hG ⊢
  refine fn_of_run en66 fn66 rfl rfl rfl ?_
  repeat (first | refine zck ?_ | refine zcl ?_ | refine zcm ?_ | refine zcn ?_)
  first | refine zcp (by kernel_rfl) ?_ | refine zcq PP_mixed (by kernel_rfl) (by kernel_rfl) ?_
  repeat' (refine zap rfl ?_; first | ((with_reducible refine zcv ?_); refine zan rfl ?_) | ((with_reducible refine zdg ?_); refine zaq (cs := [_, _, _, _]) rfl (fun nb => ?_)))
  all_goals refine zch ?_
  all_goals repeat (first | refine zck ?_ | refine zcl ?_ | refine zcm ?_ | refine zcn ?_)
  refine run_share [1] rfl ?_
  repeat' (first | refine zck ?_ | refine zcp (by kernel_rfl) ?_ | refine zcq PP_mixed (by kernel_rfl) (by kernel_rfl) ?_ | (refine zap rfl ?_; first | refine zau rfl rfl (by have := Fo.nodeN_bd u; omega) ?_ | ((with_reducible refine zcu ?_); refine zan rfl ?_) | ((with_reducible refine zcv ?_); refine zan rfl ?_) | ((with_reducible refine zcw ?_); refine zaa 0 rfl rfl rfl ?_) | ((with_reducible refine zcx ?_); first | refine reg_callG [0] hG (getG w0 p _) rfl rfl rfl sub_nil (fun u s hG => ?_) | refine zah [] (foNode w0 F hF _) rfl rfl rfl sub_nil rfl ?_) | ((with_reducible refine zcy ?_); refine zao rfl ?_) | ((with_reducible refine zcz ?_); refine zan rfl ?_) | ((with_reducible refine zda ?_); first | refine zau rfl rfl (by omega) ?_ | refine zav rfl rfl (by omega) ?_ | refine zax rfl rfl (by omega) ?_ | refine zay rfl rfl (by omega) ?_)) | refine zch ?_)
  rw [hG.done]
  exact ret_tmp2 rfl ⟨rfl, rfl⟩
theorem foMany (w0 : World) (p : Nat) (F : Fo) (hF : F.Ok) : FnG w0 [] 43 [foV F, spP p] p F.many encIB := by
  obtain ⟨_, h1, h2⟩ := id hF
  intro s hS; have hG := At.start hS; generalize Pg.run _ s = R at hG ⊢
  refine fn_of_run en43 fn43 rfl rfl rfl ?_
  repeat (first | refine zck ?_ | refine zcl ?_ | refine zcm ?_ | refine zcn ?_)
  first | refine zcp (by kernel_rfl) ?_ | refine zcq PP_mixed (by kernel_rfl) (by kernel_rfl) ?_
  repeat' (refine zap rfl ?_; first | ((with_reducible refine zcv ?_); refine zan rfl ?_) | ((with_reducible refine zdg ?_); refine zaq (cs := [_, _, _, _]) rfl (fun nb => ?_)))
  all_goals refine zch ?_
  all_goals repeat (first | refine zck ?_ | refine zcl ?_ | refine zcm ?_ | refine zcn ?_)
  refine run_share [1] rfl ?_
  repeat' (first | refine zck ?_ | refine zcp (by kernel_rfl) ?_ | (refine zap rfl ?_; first | ((with_reducible refine zct ?_); first | refine zaj rfl ?_ | refine zak rfl ?_ | refine zam rfl rfl (fun _ => ?_) (fun _ => ?_)) | ((with_reducible refine zcu ?_); refine zan rfl ?_) | ((with_reducible refine zcv ?_); refine zan rfl ?_) | ((with_reducible refine zcw ?_); refine zaa 0 rfl rfl rfl ?_) | ((with_reducible refine zcx ?_); refine reg_callG [0] hG (getG w0 p _) rfl rfl rfl sub_nil (fun u s hG => ?_)) | ((with_reducible refine zcy ?_); refine zao rfl ?_) | ((with_reducible refine zda ?_); first | refine reg_addZ rfl rfl (by omega) ?_ | refine zbr rfl rfl ?_ | refine zbt rfl rfl ?_) | ((with_reducible refine zdc ?_); first | refine zbu rfl ?_ | refine zbv rfl ?_)) | refine zch ?_)
  all_goals rw [hG.done]
  all_goals (refine ret_tmp2 rfl ⟨?_, rfl⟩)
  all_goals refine congrArg Value.tuple (?_ : #[Value.int .i64 _, .bool _] = #[Value.int .i64 _, .bool _])
  all_goals simp_all
  all_goals omega
theorem foCheck (w0 : World) (p : Nat) (F : Fo) (hF : F.Ok) (x : Int) : FnG w0 [] 42 [foV F, spP p, .int .i64 x] p (F.check x) (.int .i64) := by
  obtain ⟨_, h1, h2⟩ := id hF
  intro s hS; have hG := At.start hS; generalize Pg.run _ s = R at hG ⊢
  refine fn_of_run en42 fn42 rfl rfl rfl ?_
  repeat (first | refine zck ?_ | refine zcl ?_ | refine zcm ?_ | refine zcn ?_)
  first | refine zcp (by kernel_rfl) ?_ | refine zcq PP_mixed (by kernel_rfl) (by kernel_rfl) ?_
  repeat' (refine zap rfl ?_; first | ((with_reducible refine zcv ?_); refine zan rfl ?_) | ((with_reducible refine zdg ?_); refine zaq (cs := [_, _, _, _]) rfl (fun nb => ?_)))
  all_goals refine zch ?_
  all_goals repeat (first | refine zck ?_ | refine zcl ?_ | refine zcm ?_ | refine zcn ?_)
  refine run_share [1] rfl ?_
  by_cases hx : x < 1
  · rw [Fo.check, if_pos hx] at hG
    rw [hG.done]
    repeat' (first | refine zck ?_ | refine zcp (by kernel_rfl) ?_ | (refine zap rfl ?_; first | ((with_reducible refine zct ?_); refine zak rfl ?_) | ((with_reducible refine zcu ?_); refine zan rfl ?_) | ((with_reducible refine zcv ?_); refine zan rfl ?_) | ((with_reducible refine zda ?_); refine zbg rfl rfl (by omega) ?_) | ((with_reducible refine zdc ?_); refine zbu rfl ?_)) | refine zch ?_ | refine zci rfl ?_)
    exact ret_tmp1 rfl ⟨rfl, rfl⟩
  · rw [Fo.check, if_neg hx] at hG
    repeat' (first | refine zck ?_ | refine zcp (by kernel_rfl) ?_ | refine zcm ?_ | (refine zap rfl ?_; first | ((with_reducible refine zct ?_); refine zaj rfl ?_) | ((with_reducible refine zcu ?_); refine zan rfl ?_) | ((with_reducible refine zcv ?_); refine zan rfl ?_) | ((with_reducible refine zcw ?_); refine zaa 0 rfl rfl rfl ?_) | ((with_reducible refine zcx ?_); refine reg_callG [0] hG (getG w0 p _) rfl rfl rfl sub_nil (fun u s hG => ?_)) | ((with_reducible refine zcy ?_); refine zao rfl ?_) | ((with_reducible refine zda ?_); first | refine zbh rfl rfl (by omega) ?_ | refine reg_addZ rfl rfl (by omega) ?_ | refine zbs rfl rfl ?_) | ((with_reducible refine zdc ?_); refine zbv rfl ?_)) | refine zch ?_ | refine run_cond rfl (fun _ => ?_) (fun _ => ?_))
    all_goals first | rw [if_pos (by omega)] at hG | rw [if_neg (by omega)] at hG
    all_goals rw [hG.done]
    · repeat' (first | refine zck ?_ | (refine zap rfl ?_; first | ((with_reducible refine zct ?_); first | refine zaj rfl ?_ | refine zak rfl ?_ | refine zal rfl ?_ | refine zam rfl rfl (fun _ => ?_) (fun _ => ?_))) | refine zch ?_)
      exact ret_tmp1 rfl ⟨rfl, rfl⟩
    · repeat' (first | refine zck ?_ | (refine zap rfl ?_; first | ((with_reducible refine zct ?_); first | refine zaj rfl ?_ | refine zak rfl ?_ | refine zal rfl ?_ | refine zam rfl rfl (fun _ => ?_) (fun _ => ?_))) | refine zch ?_)
      exact ret_tmp1 rfl ⟨rfl, rfl⟩
theorem foTake (w0 : World) (p : Nat) (F : Fo) (hF : F.Ok) : FnG w0 [] 68 [foV F, spP p] p F.take encI2 := by
  obtain ⟨_, h1, h2⟩ := id hF
  intro s hS; have hG := At.start hS; generalize Pg.run _ s = R at hG ⊢
  refine fn_of_run en68 fn68 rfl rfl rfl ?_
  repeat (first | refine zck ?_ | refine zcl ?_ | refine zcm ?_ | refine zcn ?_)
  first | refine zcp (by kernel_rfl) ?_ | refine zcq PP_mixed (by kernel_rfl) (by kernel_rfl) ?_
  repeat' (refine zap rfl ?_; first | ((with_reducible refine zcv ?_); refine zan rfl ?_) | ((with_reducible refine zdg ?_); refine zaq (cs := [_, _, _, _]) rfl (fun nb => ?_)))
  all_goals refine zch ?_
  all_goals repeat (first | refine zck ?_ | refine zcl ?_ | refine zcm ?_ | refine zcn ?_)
  refine run_share [1] rfl ?_
  repeat' (first | refine zck ?_ | refine zcp (by kernel_rfl) ?_ | (refine zap rfl ?_; first | ((with_reducible refine zcu ?_); refine zan rfl ?_) | ((with_reducible refine zcv ?_); refine zan rfl ?_) | ((with_reducible refine zcw ?_); refine zaa 0 rfl rfl rfl ?_) | ((with_reducible refine zcx ?_); refine reg_callG [0] hG (takeG w0 p F.pool hF.1) rfl rfl rfl sub_nil (fun u s hG => ?_)) | ((with_reducible refine zcy ?_); refine zao rfl ?_) | ((with_reducible refine zcz ?_); refine zan rfl ?_) | ((with_reducible refine zda ?_); refine zbp rfl rfl ?_)) | refine zch ?_)
  refine run_cond rfl (fun hE => ?_) (fun hE => ?_)
  · rw [if_pos hE] at hG
    rw [hG.done]
    repeat' (first | refine zck ?_ | refine zcp (by kernel_rfl) ?_ | (refine zap rfl ?_; first | ((with_reducible refine zcu ?_); refine zan rfl ?_) | ((with_reducible refine zcv ?_); refine zan rfl ?_)) | refine zch ?_)
    exact ret_tmp2 rfl ⟨rfl, rfl⟩
  · rw [if_neg hE] at hG
    repeat' (first | refine zck ?_ | refine zcp (by kernel_rfl) ?_ | refine zcq PP_mixed (by kernel_rfl) (by kernel_rfl) ?_ | refine zcm ?_ | (refine zap rfl ?_; first | refine reg_add (t := 2) rfl rfl ?_ | ((with_reducible refine zcu ?_); refine zan rfl ?_) | ((with_reducible refine zcv ?_); refine zan rfl ?_) | ((with_reducible refine zcw ?_); refine zaa 0 rfl rfl rfl ?_) | ((with_reducible refine zcx ?_); first | refine reg_callG [0] hG (getG w0 p _) rfl rfl rfl sub_nil (fun u s hG => ?_) | refine reg_callG [0] hG (putG w0 p _ _) rfl rfl rfl sub_nil (fun u s hG => ?_)) | ((with_reducible refine zcy ?_); refine zao rfl ?_) | ((with_reducible refine zda ?_); refine zau rfl rfl (by omega) ?_)) | refine zch ?_)
    rw [hG.done]
    exact ret_tmp2 rfl ⟨rfl, rfl⟩
theorem foAdd (w0 : World) (p : Nat) (a m : Int) : FnG w0 [] 51 [spP p, .int .i64 a, .int .i64 m] p (Fo.add a m) encU := by
  intro s hS; have hG := At.start hS; generalize Pg.run _ s = R at hG ⊢
  refine fn_of_run en51 fn51 rfl rfl rfl ?_
  repeat' (first | refine zcp (by kernel_rfl) ?_ | (refine zap rfl ?_; first | refine reg_add (t := 2) rfl rfl ?_ | ((with_reducible refine zcu ?_); refine zan rfl ?_) | ((with_reducible refine zcx ?_); first | refine reg_callG [0] hG (getG w0 p _) rfl rfl rfl sub_nil (fun u s hG => ?_) | refine reg_callG [0] hG (putG w0 p _ _) rfl rfl rfl sub_nil (fun u s hG => ?_))) | refine zch ?_)
  rw [hG.done]
  exact end_tmp0 rfl ⟨rfl, rfl⟩
end Go.Proofs.Ytpcnbaddkblbhaa

/- The walks of package forest: place, Find, both, Same, Size, Sets. -/
namespace Sim.Fo
open Pg
variable (F : Fo)
theorem all_cell (x : Int) : All (fun r => 0 ≤ r.1 ∧ r.1 ≤ 4103) (F.cell x) := fun v => by
  have := nodeN_bd v
  refine all_pure ?_
  dsimp only
  omega
theorem all_place (x : Int) : All (fun r => 0 ≤ r.1 ∧ r.1 ≤ 4100) (F.place x) := by
  refine all_then fun c => all_ite (fun _ => ?_) fun _ => all_pure (by dsimp only; omega)
  refine all_then fun v => all_pure ?_
  have := nodeN_bd v
  dsimp only
  omega
theorem all_many : All (fun r => r.2 = true → 0 ≤ r.1 ∧ r.1 ≤ 64) F.many := fun v => by
  refine all_pure ?_
  dsimp only
  simp
theorem all_check (x : Int) : All (fun e => e = 0 → 1 ≤ x) (F.check x) := by
  refine all_ite (fun _ => ?_) (fun h => all_then fun n => all_ite (fun _ => ?_) fun _ => ?_)
  · exact all_pure (fun h => absurd h (by decide))
  · exact all_pure (fun h => absurd h (by decide))
  · exact all_pure (fun _ => by omega)
def InX (x : Int) : Prop := x ≤ 9223372036854775807
def Good (r : Int × Int) : Prop := r.2 = 0 → 1 ≤ r.1 ∧ InX r.1
theorem good_lost : Good (0, 24) := fun h => absurd h (by decide)
theorem good_err {e : Int} (h : e ≠ 0) : Good (0, e) := fun h2 => absurd h2 h
theorem all_climb (n : Int) (hn : n ≤ 64) : ∀ (k : Nat) (x : Int), 1 ≤ x → InX x → All Good (F.climb n k x)
  | 0, _, _, _ => all_pure good_lost
  | k + 1, x, h1, h2 => by
    refine all_then fun c => all_ite (fun _ => ?_) fun _ => all_pure good_lost
    refine all_then fun up => all_ite (fun _ => all_pure (fun _ => ⟨h1, h2⟩)) fun _ => all_ite (fun _ => all_pure good_lost) fun h => ?_
    exact all_climb n hn k up (by omega) (by unfold InX; omega)
theorem all_find (x : Int) (hx : InX x) : All Good (F.find x) := by
  refine all_bind (ψ := fun e => e = 0 → 1 ≤ x) (fun e he => all_ite (fun h => all_pure (good_err h)) fun h => ?_) (F.all_check x)
  refine all_bind (ψ := fun r => r.2 = true → 0 ≤ r.1 ∧ r.1 ≤ 64) (fun n hn => all_ite (fun h2 => ?_) fun _ => all_pure good_lost) F.all_many
  exact F.all_climb n.1 (hn h2).2 65 x (he (by omega)) hx
def Good2 (r : (Int × Int) × Int) : Prop := r.2 = 0 → (1 ≤ r.1.1 ∧ InX r.1.1) ∧ 1 ≤ r.1.2 ∧ InX r.1.2
theorem good2_err {e : Int} (h : e ≠ 0) : Good2 ((0, 0), e) := fun h2 => absurd h2 h
theorem all_both (x y : Int) (hx : InX x) (hy : InX y) : All Good2 (F.both x y) := by
  refine all_then fun e => all_ite (fun h => all_pure (good2_err h)) fun _ => all_then fun e => all_ite (fun h => all_pure (good2_err h)) fun _ => ?_
  refine all_bind (ψ := Good) (fun a ha => all_ite (fun h => all_pure (good2_err h)) fun h => ?_) (F.all_find x hx)
  refine all_bind (ψ := Good) (fun b hb => all_ite (fun h => all_pure (good2_err h)) fun h2 => ?_) (F.all_find y hy)
  exact all_pure (fun _ => ⟨ha (by omega), hb (by omega)⟩)
end Sim.Fo
namespace Go.Proofs.Ytpcnbaddkblbhaa
open Go.Vc Sim
set_option maxHeartbeats 4000000
theorem foPlace (w0 : World) (p : Nat) (F : Fo) (hF : F.Ok) (x : Int) (hx : 1 ≤ x ∧ x ≤ 9223372036854775807) : FnG w0 [] 44 [foV F, spP p, .int .i64 x] p (F.place x) encIB := by
  obtain ⟨_, h1, h2⟩ := id hF
  intro s hS; have hG := At.start hS; generalize Pg.run _ s = R at hG ⊢
  refine fn_of_run en44 fn44 rfl rfl rfl ?_
  repeat (first | refine zck ?_ | refine zcl ?_ | refine zcm ?_ | refine zcn ?_)
  first | refine zcp (by kernel_rfl) ?_ | refine zcq PP_mixed (by kernel_rfl) (by kernel_rfl) ?_
  repeat' (refine zap rfl ?_; first | ((with_reducible refine zcv ?_); refine zan rfl ?_) | ((with_reducible refine zdg ?_); refine zaq (cs := [_, _, _, _]) rfl (fun nb => ?_)))
  all_goals refine zch ?_
  all_goals repeat (first | refine zck ?_ | refine zcl ?_ | refine zcm ?_ | refine zcn ?_)
  refine run_share [1] rfl ?_
  repeat' (first | refine zck ?_ | refine zcp (by kernel_rfl) ?_ | (refine zap rfl ?_; first | ((with_reducible refine zcu ?_); refine zan rfl ?_) | ((with_reducible refine zcv ?_); refine zan rfl ?_) | ((with_reducible refine zcw ?_); refine zaa 0 rfl rfl rfl ?_) | ((with_reducible refine zcx ?_); refine reg_callG [0] hG (foCell w0 p F hF x hx) rfl rfl rfl sub_nil (fun u s hG => ?_)) | ((with_reducible refine zcz ?_); refine zan rfl ?_) | ((with_reducible refine zdb ?_); refine zbx rfl ?_)) | refine zch ?_)
  refine run_condV rfl (fun hE => ?_) (fun hE => ?_)
  · have hE : u.2 = false := by simpa using hE
    simp only [hE, Bool.false_eq_true, if_false] at hG
    rw [hG.done]
    repeat' (first | refine zck ?_ | refine zcp (by kernel_rfl) ?_ | (refine zap rfl ?_; first | ((with_reducible refine zcv ?_); refine zan rfl ?_)) | refine zch ?_)
    exact ret_tmp2 rfl ⟨rfl, rfl⟩
  · have hE : u.2 = true := by simpa using hE
    simp only [hE, if_true] at hG
    repeat' (first | refine zck ?_ | refine zcp (by kernel_rfl) ?_ | refine zcq PP_mixed (by kernel_rfl) (by kernel_rfl) ?_ | refine zcm ?_ | (refine zap rfl ?_; first | refine zau rfl rfl (by have := Fo.nodeN_bd u; omega) ?_ | ((with_reducible refine zcu ?_); refine zan rfl ?_) | ((with_reducible refine zcv ?_); refine zan rfl ?_) | ((with_reducible refine zcw ?_); refine zaa 0 rfl rfl rfl ?_) | ((with_reducible refine zcx ?_); first | refine reg_callG [0] hG (getG w0 p _) rfl rfl rfl sub_nil (fun u s hG => ?_) | refine zah [] (foNode w0 F hF _) rfl rfl rfl sub_nil rfl ?_) | ((with_reducible refine zcz ?_); refine zan rfl ?_) | ((with_reducible refine zda ?_); first | refine zav rfl rfl (by omega) ?_ | refine zaw rfl rfl (by omega) ?_ | refine zay rfl rfl (by omega) ?_)) | refine zch ?_)
    rw [hG.done]
    exact ret_tmp2 rfl ⟨rfl, rfl⟩
theorem foSets (w0 : World) (p : Nat) (F : Fo) (hF : F.Ok) : FnG w0 [] 27 [foV F, spP p] p F.sets (.int .i64) := by
  obtain ⟨_, h1, h2⟩ := id hF
  intro s hS
  have hG := (At.start hS).to (Pg.bind_pure _).symm
  generalize Pg.run _ s = R at hG ⊢
  unfold Fo.sets at hG
  refine fn_of_run en27 fn27 rfl rfl rfl ?_
  repeat (first | refine zck ?_ | refine zcl ?_ | refine zcm ?_ | refine zcn ?_)
  first | refine zcp (by kernel_rfl) ?_ | refine zcq PP_mixed (by kernel_rfl) (by kernel_rfl) ?_
  repeat' (refine zap rfl ?_; first | ((with_reducible refine zcv ?_); refine zan rfl ?_) | ((with_reducible refine zdg ?_); refine zaq (cs := [_, _, _, _]) rfl (fun nb => ?_)))
  all_goals refine zch ?_
  all_goals repeat (first | refine zck ?_ | refine zcl ?_ | refine zcm ?_ | refine zcn ?_)
  refine run_share [1] rfl ?_
  repeat' (first | refine zcp (by kernel_rfl) ?_ | (refine zap rfl ?_; first | ((with_reducible refine zcu ?_); refine zan rfl ?_) | ((with_reducible refine zcv ?_); refine zan rfl ?_) | ((with_reducible refine zcw ?_); refine zaa 0 rfl rfl rfl ?_) | ((with_reducible refine zcx ?_); refine reg_callG [0] hG (getG w0 p _) rfl rfl rfl sub_nil (fun u s hG => ?_)) | ((with_reducible refine zcy ?_); refine zao rfl ?_) | ((with_reducible refine zda ?_); refine zau rfl rfl (by omega) ?_)) | refine zch ?_)
  rw [hG.done]
  exact ret_tmp1 rfl ⟨rfl, rfl⟩
theorem foFind (w0 : World) (p : Nat) (F : Fo) (hF : F.Ok) (x : Int) (hx : x ≤ 9223372036854775807) : FnG w0 [] 15 [foV F, spP p, .int .i64 x] p (F.find x) encI2 := by
  obtain ⟨_, h1, h2⟩ := id hF
  intro s hS; have hG := At.start hS; generalize Pg.run _ s = R at hG ⊢
  refine fn_of_run en15 fn15 rfl rfl rfl ?_
  repeat (first | refine zck ?_ | refine zcl ?_ | refine zcm ?_ | refine zcn ?_)
  first | refine zcp (by kernel_rfl) ?_ | refine zcq PP_mixed (by kernel_rfl) (by kernel_rfl) ?_
  repeat' (refine zap rfl ?_; first | ((with_reducible refine zcv ?_); refine zan rfl ?_) | ((with_reducible refine zdg ?_); refine zaq (cs := [_, _, _, _]) rfl (fun nb => ?_)))
  all_goals refine zch ?_
  all_goals repeat (first | refine zck ?_ | refine zcl ?_ | refine zcm ?_ | refine zcn ?_)
  refine run_share [1] rfl ?_
  repeat' (first | refine zck ?_ | refine zcp (by kernel_rfl) ?_ | (refine zap rfl ?_; first | ((with_reducible refine zcu ?_); refine zan rfl ?_) | ((with_reducible refine zcv ?_); refine zan rfl ?_) | ((with_reducible refine zcw ?_); refine zaa 0 rfl rfl rfl ?_) | ((with_reducible refine zcx ?_); refine reg_callGP [0] hG (F.all_check x) (foCheck w0 p F hF x) rfl rfl rfl sub_nil (fun u s hx1 hG => ?_)) | ((with_reducible refine zda ?_); refine zbp rfl rfl ?_)) | refine zch ?_)
  refine run_cond rfl (fun hE => ?_) (fun hE => ?_)
  · rw [if_pos hE] at hG
    rw [hG.done]
    repeat' (first | refine zck ?_ | refine zcp (by kernel_rfl) ?_ | (refine zap rfl ?_; first | ((with_reducible refine zcu ?_); refine zan rfl ?_) | ((with_reducible refine zcv ?_); refine zan rfl ?_)) | refine zch ?_)
    exact ret_tmp2 rfl ⟨rfl, rfl⟩
  · rw [if_neg hE] at hG
    have hx1 := hx1 (by omega)
    repeat' (first | refine zck ?_ | refine zcp (by kernel_rfl) ?_ | refine zcm ?_ | (refine zap rfl ?_; first | ((with_reducible refine zcu ?_); refine zan rfl ?_) | ((with_reducible refine zcv ?_); refine zan rfl ?_) | ((with_reducible refine zcw ?_); refine zaa 0 rfl rfl rfl ?_) | ((with_reducible refine zcx ?_); refine reg_callGP [0] hG F.all_many (foMany w0 p F hF) rfl rfl rfl sub_nil (fun u s hn hG => ?_)) | ((with_reducible refine zcz ?_); refine zan rfl ?_) | ((with_reducible refine zdb ?_); refine zbx rfl ?_)) | refine zch ?_)
    refine run_condV rfl (fun hE => ?_) (fun hE => ?_)
    · have hE : u.2 = false := by simpa using hE
      simp only [hE, Bool.false_eq_true, if_false] at hG
      rw [hG.done]
      repeat' (first | refine zck ?_ | refine zcp (by kernel_rfl) ?_ | (refine zap rfl ?_; first | ((with_reducible refine zcv ?_); refine zan rfl ?_)) | refine zch ?_)
      exact ret_tmp2 rfl ⟨rfl, rfl⟩
    · have hE : u.2 = true := by simpa using hE
      simp only [hE, if_true] at hG
      have hn := hn hE
      repeat (first | refine zck ?_ | refine zcl ?_ | refine zcm ?_ | refine zcn ?_)
      first | refine zcp (by kernel_rfl) ?_ | refine zcq PP_mixed (by kernel_rfl) (by kernel_rfl) ?_
      repeat' (refine zap rfl ?_; first | ((with_reducible refine zcv ?_); refine zan rfl ?_) | ((with_reducible refine zcw ?_); refine zaa 0 rfl rfl rfl ?_) | refine zan rfl ?_)
      all_goals refine zch ?_
      all_goals repeat (first | refine zck ?_ | refine zcl ?_ | refine zcm ?_ | refine zcn ?_)
      repeat (first | refine zck ?_ | refine zcl ?_ | refine zcm ?_ | refine zcn ?_)
      first | refine zcp (by kernel_rfl) ?_ | refine zcq PP_mixed (by kernel_rfl) (by kernel_rfl) ?_
      repeat' (refine zap rfl ?_; first | ((with_reducible refine zcu ?_); refine zan rfl ?_))
      all_goals refine zch ?_
      all_goals repeat (refine zck ?_)
      refine zcl ?_
      refine run_loop (S := Nat × Int × Sp) (fun st => [(3, .pointer (some ⟨nb, 0, none⟩)), (1, spP p), (2, .int .i64 st.2.1), (9, .int .i64 u.1), (11, .func (.func 44) #[foV F] #[]), (32, .int .i64 (st.1 : Int))])
        (fun st Γ => Γ = [SpaceA p st.2.2] ∧ At R (F.climb u.1 (65 - st.1) st.2.1) st.2.2 ∧ st.1 ≤ 65 ∧ 1 ≤ st.2.1 ∧ Fo.InX st.2.1) (fun st => 65 - st.1) (0, x, s) ⟨rfl, rfl, rfl, rfl, rfl, rfl, trivial⟩ ⟨rfl, hG, Nat.zero_le _, hx1, hx⟩ ?_
      rintro ⟨i, y, s⟩ Γ junk ⟨rfl, hG, hi, hy, hy2⟩
      dsimp only at hG hi hy hy2 ⊢
      by_cases hlt : i < 65
      · obtain ⟨k, hk⟩ : ∃ k, 65 - i = k + 1 := ⟨64 - i, by omega⟩
        rw [hk, Fo.climb] at hG
        repeat' (first | refine zck ?_ | refine zcp (by kernel_rfl) ?_ | refine zcm ?_ | refine zcl ?_ | (refine zap rfl ?_; first | ((with_reducible refine zcu ?_); refine zan rfl ?_) | ((with_reducible refine zcv ?_); refine zan rfl ?_) | ((with_reducible refine zcx ?_); refine reg_callGP [0] hG (F.all_place y) (foPlace w0 p F hF y ⟨hy, hy2⟩) rfl rfl rfl sub_nil (fun c s hb hG => ?_)) | ((with_reducible refine zcz ?_); refine zan rfl ?_) | ((with_reducible refine zda ?_); refine zbg rfl rfl (by omega) ?_) | ((with_reducible refine zdb ?_); refine zbx rfl ?_)) | refine zch ?_ | refine zci rfl ?_)
        refine run_condV rfl (fun hE => ?_) (fun hE => ?_)
        · have hE : c.2 = false := by simpa using hE
          simp only [hE, Bool.false_eq_true, if_false] at hG
          rw [hG.done]
          repeat' (first | refine zck ?_ | refine zcp (by kernel_rfl) ?_ | (refine zap rfl ?_; first | ((with_reducible refine zcv ?_); refine zan rfl ?_)) | refine zch ?_)
          exact qret2 (fun _ _ h => h) rfl ⟨rfl, rfl⟩
        · have hE : c.2 = true := by simpa using hE
          simp only [hE, if_true] at hG
          repeat' (first | refine zck ?_ | refine zcp (by kernel_rfl) ?_ | refine zcm ?_ | refine zcl ?_ | refine zcn ?_ | (refine zap rfl ?_; first | ((with_reducible refine zct ?_); first | refine zaj rfl ?_ | refine zak rfl ?_ | refine zam rfl rfl (fun _ => ?_) (fun _ => ?_)) | ((with_reducible refine zcu ?_); refine zan rfl ?_) | ((with_reducible refine zcv ?_); refine zan rfl ?_) | ((with_reducible refine zcx ?_); refine reg_callG [0] hG (getG w0 p _) rfl rfl rfl sub_nil (fun v s hG => ?_)) | ((with_reducible refine zda ?_); first | refine reg_addZ rfl rfl (by omega) ?_ | refine zau rfl rfl (by omega) ?_ | refine zbo rfl rfl ?_ | refine zbq rfl rfl ?_ | refine zbs rfl rfl ?_) | ((with_reducible refine zdc ?_); first | refine zbu rfl ?_ | refine zbv rfl ?_)) | refine zch ?_ | refine zci rfl ?_ | refine run_cond rfl (fun _ => ?_) (fun _ => ?_))
          · rename_i h0
            rw [if_pos h0] at hG
            rw [hG.done]
            exact qret2 (fun _ _ h => h) rfl ⟨rfl, rfl⟩
          · rename_i h0 h3
            rw [if_neg h0, if_pos (.inl h3)] at hG
            rw [hG.done]
            repeat' (first | refine zck ?_ | (refine zap rfl ?_; first | ((with_reducible refine zct ?_); first | refine zaj rfl ?_ | refine zak rfl ?_ | refine zal rfl ?_ | refine zam rfl rfl (fun _ => ?_) (fun _ => ?_))) | refine zch ?_)
            exact qret2 (fun _ _ h => h) rfl ⟨rfl, rfl⟩
          · rename_i h0 h3 h4
            rw [if_neg h0, if_pos (.inr h4)] at hG
            rw [hG.done]
            repeat' (first | refine zck ?_ | (refine zap rfl ?_; first | ((with_reducible refine zct ?_); first | refine zaj rfl ?_ | refine zak rfl ?_ | refine zal rfl ?_ | refine zam rfl rfl (fun _ => ?_) (fun _ => ?_))) | refine zch ?_)
            exact qret2 (fun _ _ h => h) rfl ⟨rfl, rfl⟩
          · rename_i h0 h3 h4
            rw [if_neg h0, if_neg (by omega)] at hG
            have e : 65 - (i + 1) = k := by omega
            repeat' (first | refine zck ?_ | (refine zap rfl ?_; first | ((with_reducible refine zct ?_); first | refine zaj rfl ?_ | refine zak rfl ?_ | refine zal rfl ?_ | refine zam rfl rfl (fun _ => ?_) (fun _ => ?_))) | refine zch ?_)
            exact cut_end ⟨rfl, (i + 1, v, s), ⟨rfl, rfl, rfl, rfl, rfl, int_eq (by dsimp only; omega), trivial⟩, ⟨rfl, by dsimp only; rw [e]; exact hG, hlt, by dsimp only; omega, by unfold Fo.InX; dsimp only; omega⟩, by dsimp only; omega⟩
      · have e : 65 - i = 0 := by omega
        rw [e, Fo.climb] at hG
        rw [hG.done]
        repeat' (first | refine zck ?_ | refine zcp (by kernel_rfl) ?_ | (refine zap rfl ?_; first | ((with_reducible refine zda ?_); refine zbh rfl rfl (by omega) ?_)) | refine zch ?_ | refine zcj rfl ?_)
        refine cut_exit rfl rfl ?_
        repeat' (first | refine zck ?_ | refine zcp (by kernel_rfl) ?_ | (refine zap rfl ?_; first | ((with_reducible refine zcv ?_); refine zan rfl ?_)) | refine zch ?_)
        exact ret_tmp2 rfl ⟨rfl, rfl⟩
end Go.Proofs.Ytpcnbaddkblbhaa

/- The walks of package forest: both, Same, Size. -/
namespace Go.Proofs.Ytpcnbaddkblbhaa
open Go.Vc Sim
set_option maxHeartbeats 4000000
theorem foBoth (w0 : World) (p : Nat) (F : Fo) (hF : F.Ok) (x y : Int) (hx : x ≤ 9223372036854775807) (hy : y ≤ 9223372036854775807) : FnG w0 [] 50 [foV F, spP p, .int .i64 x, .int .i64 y] p (F.both x y) encPI := by
  obtain ⟨_, h1, h2⟩ := id hF
  intro s hS; have hG := At.start hS; generalize Pg.run _ s = R at hG ⊢
  refine fn_of_run en50 fn50 rfl rfl rfl ?_
  repeat (first | refine zck ?_ | refine zcl ?_ | refine zcm ?_ | refine zcn ?_)
  first | refine zcp (by kernel_rfl) ?_ | refine zcq PP_mixed (by kernel_rfl) (by kernel_rfl) ?_
  repeat' (refine zap rfl ?_; first | ((with_reducible refine zcv ?_); refine zan rfl ?_) | ((with_reducible refine zdg ?_); refine zaq (cs := [_, _, _, _]) rfl (fun nb => ?_)) | ((with_reducible refine zdh ?_); refine zar (fun nb => ?_)))
  all_goals refine zch ?_
  all_goals repeat (first | refine zck ?_ | refine zcl ?_ | refine zcm ?_ | refine zcn ?_)
  refine run_share [1] rfl ?_
  repeat (first | refine zck ?_ | refine zcl ?_ | refine zcm ?_ | refine zcn ?_)
  first | refine zcp (by kernel_rfl) ?_ | refine zcq PP_mixed (by kernel_rfl) (by kernel_rfl) ?_
  repeat' (refine zap rfl ?_; first | ((with_reducible refine zcu ?_); refine zan rfl ?_) | refine reg_buildA rfl ?_)
  all_goals refine zch ?_
  all_goals repeat (first | refine zck ?_ | refine zcl ?_ | refine zcm ?_ | refine zcn ?_)
  refine run_loop1 ?_
  repeat' (first | refine zck ?_ | refine zcp (by kernel_rfl) ?_ | refine zcm ?_ | refine zcl ?_ | (refine zap rfl ?_; first | ((with_reducible refine zcu ?_); refine zan rfl ?_) | ((with_reducible refine zcv ?_); refine zan rfl ?_) | ((with_reducible refine zcw ?_); refine zaa 0 rfl rfl rfl ?_) | ((with_reducible refine zcx ?_); refine reg_callG [0] hG (foCheck w0 p F hF x) rfl rfl rfl sub_nil (fun u s hG => ?_)) | ((with_reducible refine zda ?_); first | refine zbg rfl rfl (by omega) ?_ | refine zbp rfl rfl ?_) | refine reg_indexA rfl rfl (by omega) rfl ?_) | refine zch ?_ | refine zci rfl ?_)
  refine run_cond rfl (fun hE => ?_) (fun hE => ?_)
  · rw [if_pos hE] at hG
    rw [hG.done]
    repeat' (first | refine zck ?_ | refine zcp (by kernel_rfl) ?_ | (refine zap rfl ?_; first | ((with_reducible refine zcu ?_); refine zan rfl ?_) | ((with_reducible refine zcv ?_); refine zan rfl ?_) | ((with_reducible refine zdd ?_); refine zae 1 rfl rfl rfl rfl rfl rfl rfl ?_) | refine reg_buildA rfl ?_) | refine zch ?_)
    exact run_ret (leaves_nil (ends_take [0] rfl (ends_two rfl (resOk_pt 1 rfl rfl rfl) rfl ⟨rfl, rfl, rfl⟩)))
  · rw [if_neg hE] at hG
    repeat' (first | refine zck ?_ | refine zcp (by kernel_rfl) ?_ | refine zcm ?_ | refine zcl ?_ | refine zcn ?_ | refine zco ?_ | (refine zap rfl ?_; first | ((with_reducible refine zcu ?_); refine zan rfl ?_) | ((with_reducible refine zcv ?_); refine zan rfl ?_) | ((with_reducible refine zcw ?_); refine zaa 0 rfl rfl rfl ?_) | ((with_reducible refine zcx ?_); refine reg_callG [0] hG (foCheck w0 p F hF y) rfl rfl rfl sub_nil (fun u s hG => ?_)) | ((with_reducible refine zda ?_); first | refine zbg rfl rfl (by omega) ?_ | refine zau rfl rfl (by omega) ?_ | refine zbp rfl rfl ?_) | refine reg_indexA rfl rfl (by omega) rfl ?_) | refine zch ?_ | refine zci rfl ?_)
    refine run_cond rfl (fun hE => ?_) (fun hE => ?_)
    · rw [if_pos hE] at hG
      rw [hG.done]
      repeat' (first | refine zck ?_ | refine zcp (by kernel_rfl) ?_ | (refine zap rfl ?_; first | ((with_reducible refine zcu ?_); refine zan rfl ?_) | ((with_reducible refine zcv ?_); refine zan rfl ?_) | ((with_reducible refine zdd ?_); refine zae 1 rfl rfl rfl rfl rfl rfl rfl ?_) | refine reg_buildA rfl ?_) | refine zch ?_)
      exact run_ret (leaves_nil (ends_take [0] rfl (ends_two rfl (resOk_pt 1 rfl rfl rfl) rfl ⟨rfl, rfl, rfl⟩)))
    · rw [if_neg hE] at hG
      repeat' (first | refine zck ?_ | refine zcp (by kernel_rfl) ?_ | refine zcm ?_ | refine zcl ?_ | refine zcn ?_ | refine zco ?_ | refine zcs rfl ?_ | (refine zap rfl ?_; first | ((with_reducible refine zcu ?_); refine zan rfl ?_) | ((with_reducible refine zda ?_); first | refine zbh rfl rfl (by omega) ?_ | refine zau rfl rfl (by omega) ?_) | ((with_reducible refine zdh ?_); refine zar (fun nb => ?_)) | refine reg_buildA rfl ?_) | refine zch ?_ | refine zcj rfl ?_)
      refine run_loop1 ?_
      repeat' (first | refine zck ?_ | refine zcp (by kernel_rfl) ?_ | refine zcm ?_ | refine zcl ?_ | (refine zap rfl ?_; first | ((with_reducible refine zcu ?_); refine zan rfl ?_) | ((with_reducible refine zcv ?_); refine zan rfl ?_) | ((with_reducible refine zcw ?_); refine zaa 0 rfl rfl rfl ?_) | ((with_reducible refine zcx ?_); refine reg_callG [0] hG (foFind w0 p F hF x hx) rfl rfl rfl sub_nil (fun a s hG => ?_)) | ((with_reducible refine zcz ?_); refine zan rfl ?_) | ((with_reducible refine zda ?_); first | refine zbg rfl rfl (by omega) ?_ | refine zbp rfl rfl ?_) | refine reg_indexA rfl rfl (by omega) rfl ?_) | refine zch ?_ | refine zci rfl ?_)
      refine run_cond rfl (fun hE => ?_) (fun hE => ?_)
      · rw [if_pos hE] at hG
        rw [hG.done]
        repeat' (first | refine zck ?_ | refine zcp (by kernel_rfl) ?_ | (refine zap rfl ?_; first | ((with_reducible refine zcu ?_); refine zan rfl ?_) | ((with_reducible refine zcv ?_); refine zan rfl ?_) | ((with_reducible refine zdd ?_); refine zae 1 rfl rfl rfl rfl rfl rfl rfl ?_) | refine reg_buildA rfl ?_) | refine zch ?_)
        exact run_ret (leaves_nil (ends_take [0] rfl (ends_two rfl (resOk_pt 1 rfl rfl rfl) rfl ⟨rfl, rfl, rfl⟩)))
      · rw [if_neg hE] at hG
        repeat' (first | refine zck ?_ | refine zcp (by kernel_rfl) ?_ | refine zcm ?_ | refine zcl ?_ | refine zcn ?_ | refine zco ?_ | (refine zap rfl ?_; first | ((with_reducible refine zcu ?_); refine zan rfl ?_) | ((with_reducible refine zcv ?_); refine zan rfl ?_) | ((with_reducible refine zcw ?_); refine zaa 0 rfl rfl rfl ?_) | ((with_reducible refine zcx ?_); refine reg_callG [0] hG (foFind w0 p F hF y hy) rfl rfl rfl sub_nil (fun b s hG => ?_)) | ((with_reducible refine zcz ?_); refine zan rfl ?_) | ((with_reducible refine zda ?_); first | refine zbg rfl rfl (by omega) ?_ | refine zau rfl rfl (by omega) ?_ | refine zbp rfl rfl ?_) | ((with_reducible refine zdd ?_); refine zae 2 rfl rfl rfl rfl rfl rfl rfl ?_) | ((with_reducible refine zdf ?_); refine zat rfl rfl (by omega) ?_) | refine reg_indexA rfl rfl (by omega) rfl ?_) | refine zch ?_ | refine zci rfl ?_)
        refine run_cond rfl (fun hE => ?_) (fun hE => ?_)
        · rw [if_pos hE] at hG
          rw [hG.done]
          repeat' (first | refine zck ?_ | refine zcp (by kernel_rfl) ?_ | (refine zap rfl ?_; first | ((with_reducible refine zcu ?_); refine zan rfl ?_) | ((with_reducible refine zcv ?_); refine zan rfl ?_) | ((with_reducible refine zdd ?_); refine zae 1 rfl rfl rfl rfl rfl rfl rfl ?_) | refine reg_buildA rfl ?_) | refine zch ?_)
          exact run_ret (leaves_nil (ends_take [0] rfl (ends_two rfl (resOk_pt 1 rfl rfl rfl) rfl ⟨rfl, rfl, rfl⟩)))
        · rw [if_neg hE] at hG
          rw [hG.done]
          repeat' (first | refine zck ?_ | refine zcp (by kernel_rfl) ?_ | refine zcm ?_ | refine zcn ?_ | refine zco ?_ | refine zcs rfl ?_ | (refine zap rfl ?_; first | ((with_reducible refine zcu ?_); refine zan rfl ?_) | ((with_reducible refine zcv ?_); refine zan rfl ?_) | ((with_reducible refine zcw ?_); refine zab 2 rfl rfl rfl ?_) | ((with_reducible refine zda ?_); first | refine zbh rfl rfl (by omega) ?_ | refine zau rfl rfl (by omega) ?_) | ((with_reducible refine zdd ?_); first | refine zae 1 rfl rfl rfl rfl rfl rfl rfl ?_ | refine zae 2 rfl rfl rfl rfl rfl rfl rfl ?_) | ((with_reducible refine zdf ?_); refine zat rfl rfl (by omega) ?_)) | refine zch ?_ | refine zcj rfl ?_)
          exact run_ret (leaves_nil (ends_take [0] rfl (ends_two rfl (resOk_pt 1 rfl rfl rfl) rfl ⟨rfl, rfl, rfl⟩)))
theorem foSame (w0 : World) (p : Nat) (F : Fo) (hF : F.Ok) (x y : Int) (hx : x ≤ 9223372036854775807) (hy : y ≤ 9223372036854775807) : FnG w0 [] 26 [foV F, spP p, .int .i64 x, .int .i64 y] p (F.same x y) encBI := by
  intro s hS; have hG := At.start hS; generalize Pg.run _ s = R at hG ⊢
  refine fn_of_run en26 fn26 rfl rfl rfl ?_
  repeat (first | refine zck ?_ | refine zcl ?_ | refine zcm ?_ | refine zcn ?_)
  first | refine zcp (by kernel_rfl) ?_ | refine zcq PP_mixed (by kernel_rfl) (by kernel_rfl) ?_
  repeat' (refine zap rfl ?_; first | ((with_reducible refine zcv ?_); refine zan rfl ?_) | ((with_reducible refine zdg ?_); refine zaq (cs := [_, _, _, _]) rfl (fun nb => ?_)))
  all_goals refine zch ?_
  all_goals repeat (first | refine zck ?_ | refine zcl ?_ | refine zcm ?_ | refine zcn ?_)
  refine run_share [1] rfl ?_
  repeat' (first | refine zck ?_ | refine zcp (by kernel_rfl) ?_ | (refine zap rfl ?_; first | ((with_reducible refine zct ?_); first | refine zaj rfl ?_ | refine zak rfl ?_ | refine zam rfl rfl (fun _ => ?_) (fun _ => ?_)) | ((with_reducible refine zcu ?_); refine zan rfl ?_) | ((with_reducible refine zcv ?_); refine zan rfl ?_) | ((with_reducible refine zcw ?_); first | refine zaa 0 rfl rfl rfl ?_ | refine zab 1 rfl rfl rfl ?_) | ((with_reducible refine zcx ?_); refine reg_callG [0] hG (foBoth w0 p F hF x y hx hy) rfl rfl rfl sub_nil (fun u s hG => ?_)) | ((with_reducible refine zcz ?_); refine zan rfl ?_) | ((with_reducible refine zda ?_); refine zbo rfl rfl ?_) | ((with_reducible refine zdc ?_); first | refine zbu rfl ?_ | refine zbv rfl ?_) | ((with_reducible refine zdd ?_); refine zae 1 rfl rfl rfl rfl rfl rfl rfl ?_) | ((with_reducible refine zdf ?_); refine zat rfl rfl (by omega) ?_) | ((with_reducible refine zdh ?_); refine zar (fun nb => ?_))) | refine zch ?_)
  all_goals rw [hG.done]
  all_goals (refine run_take [0] rfl ?_; refine ret_tmp2 rfl ⟨?_, rfl⟩)
  all_goals refine congrArg Value.tuple (?_ : #[Value.bool _, .int .i64 _] = #[Value.bool _, .int .i64 _])
  all_goals simp_all
theorem foSize (w0 : World) (p : Nat) (F : Fo) (hF : F.Ok) (x : Int) (hx : x ≤ 9223372036854775807) : FnG w0 [] 16 [foV F, spP p, .int .i64 x] p (F.sizeOf x) encI2 := by
  obtain ⟨_, h1, h2⟩ := id hF
  intro s hS; have hG := At.start hS; generalize Pg.run _ s = R at hG ⊢
  refine fn_of_run en16 fn16 rfl rfl rfl ?_
  repeat (first | refine zck ?_ | refine zcl ?_ | refine zcm ?_ | refine zcn ?_)
  first | refine zcp (by kernel_rfl) ?_ | refine zcq PP_mixed (by kernel_rfl) (by kernel_rfl) ?_
  repeat' (refine zap rfl ?_; first | ((with_reducible refine zcv ?_); refine zan rfl ?_) | ((with_reducible refine zdg ?_); refine zaq (cs := [_, _, _, _]) rfl (fun nb => ?_)))
  all_goals refine zch ?_
  all_goals repeat (first | refine zck ?_ | refine zcl ?_ | refine zcm ?_ | refine zcn ?_)
  refine run_share [1] rfl ?_
  repeat' (first | refine zck ?_ | refine zcp (by kernel_rfl) ?_ | (refine zap rfl ?_; first | ((with_reducible refine zcu ?_); refine zan rfl ?_) | ((with_reducible refine zcv ?_); refine zan rfl ?_) | ((with_reducible refine zcw ?_); refine zaa 0 rfl rfl rfl ?_) | ((with_reducible refine zcx ?_); refine reg_callGP [0] hG (F.all_find x hx) (foFind w0 p F hF x hx) rfl rfl rfl sub_nil (fun r s hr hG => ?_)) | ((with_reducible refine zcz ?_); refine zan rfl ?_) | ((with_reducible refine zda ?_); refine zbp rfl rfl ?_)) | refine zch ?_)
  refine run_cond rfl (fun hE => ?_) (fun hE => ?_)
  · rw [if_pos hE] at hG
    rw [hG.done]
    repeat' (first | refine zck ?_ | refine zcp (by kernel_rfl) ?_ | (refine zap rfl ?_; first | ((with_reducible refine zcu ?_); refine zan rfl ?_) | ((with_reducible refine zcv ?_); refine zan rfl ?_)) | refine zch ?_)
    exact ret_tmp2 rfl ⟨rfl, rfl⟩
  · rw [if_neg hE] at hG
    have hr := hr (by omega)
    repeat' (first | refine zck ?_ | refine zcp (by kernel_rfl) ?_ | refine zcm ?_ | (refine zap rfl ?_; first | ((with_reducible refine zcu ?_); refine zan rfl ?_) | ((with_reducible refine zcv ?_); refine zan rfl ?_) | ((with_reducible refine zcw ?_); refine zaa 0 rfl rfl rfl ?_) | ((with_reducible refine zcx ?_); refine reg_callGP [0] hG (F.all_place r.1) (foPlace w0 p F hF r.1 hr) rfl rfl rfl sub_nil (fun u s hb hG => ?_)) | ((with_reducible refine zcz ?_); refine zan rfl ?_) | ((with_reducible refine zdb ?_); refine zbx rfl ?_)) | refine zch ?_)
    refine run_condV rfl (fun hE => ?_) (fun hE => ?_)
    · have hE : u.2 = false := by simpa using hE
      simp only [hE, Bool.false_eq_true, if_false] at hG
      rw [hG.done]
      repeat' (first | refine zck ?_ | refine zcp (by kernel_rfl) ?_ | (refine zap rfl ?_; first | ((with_reducible refine zcv ?_); refine zan rfl ?_)) | refine zch ?_)
      exact ret_tmp2 rfl ⟨rfl, rfl⟩
    · have hE : u.2 = true := by simpa using hE
      simp only [hE, if_true] at hG
      repeat' (first | refine zck ?_ | refine zcp (by kernel_rfl) ?_ | refine zcm ?_ | (refine zap rfl ?_; first | ((with_reducible refine zcu ?_); refine zan rfl ?_) | ((with_reducible refine zcv ?_); refine zan rfl ?_) | ((with_reducible refine zcx ?_); refine reg_callG [0] hG (getG w0 p _) rfl rfl rfl sub_nil (fun u s hG => ?_)) | ((with_reducible refine zda ?_); refine zau rfl rfl (by omega) ?_)) | refine zch ?_)
      rw [hG.done]
      exact ret_tmp2 rfl ⟨rfl, rfl⟩
end Go.Proofs.Ytpcnbaddkblbhaa

/- The walk of package forest: Union. -/
namespace Go.Proofs.Ytpcnbaddkblbhaa
open Go.Vc Sim
set_option maxHeartbeats 4000000
theorem foUnion (w0 : World) (p : Nat) (F : Fo) (hF : F.Ok) (x y : Int) (hx : x ≤ 9223372036854775807) (hy : y ≤ 9223372036854775807) : FnG w0 [] 20 [foV F, spP p, .int .i64 x, .int .i64 y] p (F.union x y) encBI := by
  obtain ⟨_, h1, h2⟩ := id hF
  intro s hS; have hG := At.start hS; generalize Pg.run _ s = R at hG ⊢
  refine fn_of_run en20 fn20 rfl rfl rfl ?_
  repeat (first | refine zck ?_ | refine zcl ?_ | refine zcm ?_ | refine zcn ?_)
  first | refine zcp (by kernel_rfl) ?_ | refine zcq PP_mixed (by kernel_rfl) (by kernel_rfl) ?_
  repeat' (refine zap rfl ?_; first | ((with_reducible refine zcv ?_); refine zan rfl ?_) | ((with_reducible refine zdg ?_); refine zaq (cs := [_, _, _, _]) rfl (fun nb => ?_)))
  all_goals refine zch ?_
  all_goals repeat (first | refine zck ?_ | refine zcl ?_ | refine zcm ?_ | refine zcn ?_)
  refine run_share [1] rfl ?_
  repeat (first | refine zck ?_ | refine zcl ?_ | refine zcm ?_ | refine zcn ?_)
  first | refine zcp (by kernel_rfl) ?_ | refine zcq PP_mixed (by kernel_rfl) (by kernel_rfl) ?_
  repeat' (refine zap rfl ?_; first | ((with_reducible refine zcu ?_); refine zan rfl ?_) | ((with_reducible refine zcv ?_); refine zan rfl ?_) | ((with_reducible refine zcw ?_); refine zaa 0 rfl rfl rfl ?_) | ((with_reducible refine zcx ?_); refine reg_callGP [0] hG (F.all_both x y hx hy) (foBoth w0 p F hF x y hx hy) rfl rfl rfl sub_nil (fun r s hr hG => ?_)) | ((with_reducible refine zcz ?_); refine zan rfl ?_) | ((with_reducible refine zdd ?_); refine zae 1 rfl rfl rfl rfl rfl rfl rfl ?_) | ((with_reducible refine zdh ?_); refine zar (fun nb => ?_)))
  all_goals refine zch ?_
  all_goals repeat (first | refine zck ?_ | refine zcl ?_ | refine zcm ?_ | refine zcn ?_)
  rename_i c10
  refine run_share [1] rfl ?_
  by_cases hE : r.2 ≠ 0
  · rw [if_pos (.inl hE)] at hG
    rw [hG.done]
    repeat' (first | refine zck ?_ | refine zcp (by kernel_rfl) ?_ | (refine zap rfl ?_; first | ((with_reducible refine zct ?_); refine zak rfl ?_) | ((with_reducible refine zcu ?_); refine zan rfl ?_) | ((with_reducible refine zcv ?_); refine zan rfl ?_) | ((with_reducible refine zda ?_); refine zbe rfl rfl (by omega) ?_) | ((with_reducible refine zdc ?_); refine zbu rfl ?_)) | refine zch ?_ | refine zci rfl ?_)
    exact ret_tmp2 rfl ⟨rfl, rfl⟩
  by_cases hE2 : r.1.1 = r.1.2
  · rw [if_pos (.inr hE2)] at hG
    rw [hG.done]
    repeat' (first | refine zck ?_ | refine zcp (by kernel_rfl) ?_ | (refine zap rfl ?_; first | ((with_reducible refine zct ?_); refine zaj rfl ?_) | ((with_reducible refine zcu ?_); refine zan rfl ?_) | ((with_reducible refine zcv ?_); refine zan rfl ?_) | ((with_reducible refine zcw ?_); refine zaa 0 rfl rfl rfl ?_) | ((with_reducible refine zda ?_); first | refine zbc rfl rfl (by omega) ?_ | refine zbf rfl rfl (by omega) ?_) | ((with_reducible refine zdc ?_); refine zbv rfl ?_) | ((with_reducible refine zdf ?_); refine zat rfl rfl (by omega) ?_)) | refine zch ?_ | refine zci rfl ?_)
    exact ret_tmp2 rfl ⟨rfl, rfl⟩
  rw [if_neg (by omega)] at hG
  have hr := hr (by omega)
  unfold Fo.join at hG
  repeat' (first | refine zck ?_ | refine zcp (by kernel_rfl) ?_ | refine zcm ?_ | refine zcl ?_ | (refine zap rfl ?_; first | ((with_reducible refine zct ?_); refine zaj rfl ?_) | ((with_reducible refine zcu ?_); refine zan rfl ?_) | ((with_reducible refine zcw ?_); refine zaa 0 rfl rfl rfl ?_) | ((with_reducible refine zda ?_); first | refine zbd rfl rfl (by omega) ?_ | refine zbf rfl rfl (by omega) ?_) | ((with_reducible refine zdc ?_); refine zbv rfl ?_) | ((with_reducible refine zdf ?_); refine zat rfl rfl (by omega) ?_) | ((with_reducible refine zdh ?_); refine zar (fun nb => ?_))) | refine zch ?_ | refine zcj rfl ?_)
  refine run_loop1 ?_
  repeat' (first | refine zck ?_ | refine zcp (by kernel_rfl) ?_ | refine zcq PP_mixed (by kernel_rfl) (by kernel_rfl) ?_ | refine zcm ?_ | refine zcl ?_ | (refine zap rfl ?_; first | ((with_reducible refine zcu ?_); refine zan rfl ?_) | ((with_reducible refine zcv ?_); refine zan rfl ?_) | ((with_reducible refine zcw ?_); first | refine zaa 0 rfl rfl rfl ?_ | refine zaa 1 rfl rfl rfl ?_) | ((with_reducible refine zcx ?_); refine reg_callGP [0] hG (F.all_place r.1.1) (foPlace w0 p F hF r.1.1 hr.1) rfl rfl rfl sub_nil (fun a s ha hG => ?_)) | ((with_reducible refine zcz ?_); refine zan rfl ?_) | ((with_reducible refine zda ?_); refine zbg rfl rfl (by omega) ?_) | ((with_reducible refine zdb ?_); refine zbx rfl ?_) | ((with_reducible refine zdf ?_); refine zat rfl rfl (by omega) ?_)) | refine zch ?_ | refine zci rfl ?_)
  refine run_condV rfl (fun hE => ?_) (fun hE => ?_)
  · have hE : a.2 = false := by simpa using hE
    simp only [hE, Bool.false_eq_true, if_false] at hG
    rw [hG.done]
    repeat' (first | refine zck ?_ | refine zcp (by kernel_rfl) ?_ | (refine zap rfl ?_; first | ((with_reducible refine zcv ?_); refine zan rfl ?_)) | refine zch ?_)
    refine run_take [0] rfl ?_
    exact ret_tmp2 rfl ⟨rfl, rfl⟩
  have hE : a.2 = true := by simpa using hE
  simp only [hE, if_true] at hG
  repeat' (first | refine zck ?_ | refine zcp (by kernel_rfl) ?_ | refine zcq PP_mixed (by kernel_rfl) (by kernel_rfl) ?_ | refine zcm ?_ | refine zcl ?_ | refine zcn ?_ | refine zco ?_ | (refine zap rfl ?_; first | ((with_reducible refine zcu ?_); refine zan rfl ?_) | ((with_reducible refine zcv ?_); refine zan rfl ?_) | ((with_reducible refine zcw ?_); first | refine zaa 0 rfl rfl rfl ?_ | refine zaa 1 rfl rfl rfl ?_) | ((with_reducible refine zcx ?_); first | refine reg_callG [0] hG (getG w0 p _) rfl rfl rfl sub_nil (fun u s hG => ?_) | refine reg_callGP [0] hG (F.all_place r.1.2) (foPlace w0 p F hF r.1.2 hr.2) rfl rfl rfl sub_nil (fun b s hb hG => ?_)) | ((with_reducible refine zcz ?_); refine zan rfl ?_) | ((with_reducible refine zda ?_); first | refine zbg rfl rfl (by omega) ?_ | refine zau rfl rfl (by omega) ?_) | ((with_reducible refine zdb ?_); refine zbx rfl ?_) | ((with_reducible refine zdd ?_); first | refine zae 1 rfl rfl rfl rfl rfl rfl rfl ?_ | refine zae 2 rfl rfl rfl rfl rfl rfl rfl ?_) | ((with_reducible refine zdf ?_); refine zat rfl rfl (by omega) ?_)) | refine zch ?_ | refine zci rfl ?_)
  refine run_condV rfl (fun hE => ?_) (fun hE => ?_)
  · have hE : b.2 = false := by simpa using hE
    simp only [hE, Bool.false_eq_true, if_false] at hG
    rw [hG.done]
    repeat' (first | refine zck ?_ | refine zcp (by kernel_rfl) ?_ | (refine zap rfl ?_; first | ((with_reducible refine zcv ?_); refine zan rfl ?_)) | refine zch ?_)
    refine run_take [0] rfl ?_
    exact ret_tmp2 rfl ⟨rfl, rfl⟩
  have hE : b.2 = true := by simpa using hE
  simp only [hE, if_true] at hG
  repeat (first | refine zck ?_ | refine zcl ?_ | refine zcm ?_ | refine zcn ?_ | refine zco ?_)
  repeat (first | refine zck ?_ | refine zcl ?_ | refine zcm ?_ | refine zcn ?_)
  first | refine zcp (by kernel_rfl) ?_ | refine zcq PP_mixed (by kernel_rfl) (by kernel_rfl) ?_
  repeat' (refine zap rfl ?_; first | ((with_reducible refine zcu ?_); refine zan rfl ?_) | ((with_reducible refine zcx ?_); refine reg_callG [0] hG (getG w0 p _) rfl rfl rfl sub_nil (fun v s hG => ?_)) | ((with_reducible refine zda ?_); refine zau rfl rfl (by omega) ?_) | ((with_reducible refine zdd ?_); first | refine zae 1 rfl rfl rfl rfl rfl rfl rfl ?_ | refine zae 2 rfl rfl rfl rfl rfl rfl rfl ?_) | ((with_reducible refine zdf ?_); refine zat rfl rfl (by omega) ?_))
  all_goals refine zch ?_
  all_goals repeat (refine zck ?_)
  repeat (first | refine zck ?_ | refine zcl ?_ | refine zcm ?_ | refine zcn ?_)
  first | refine zcp (by kernel_rfl) ?_ | refine zcq PP_mixed (by kernel_rfl) (by kernel_rfl) ?_
  repeat' (refine zap rfl ?_; first | ((with_reducible refine zcu ?_); refine zan rfl ?_) | ((with_reducible refine zda ?_); refine zau rfl rfl (by omega) ?_))
  all_goals refine zch ?_
  all_goals repeat (refine zck ?_)
  refine zco ?_
  repeat (first | refine zck ?_ | refine zcl ?_ | refine zcm ?_ | refine zcn ?_ | refine zco ?_)
  repeat (first | refine zck ?_ | refine zcl ?_ | refine zcm ?_ | refine zcn ?_)
  first | refine zcp (by kernel_rfl) ?_ | refine zcq PP_mixed (by kernel_rfl) (by kernel_rfl) ?_
  repeat' (refine zap rfl ?_; first | ((with_reducible refine zda ?_); refine zbq rfl rfl ?_))
  all_goals refine zch ?_
  all_goals repeat (first | refine zck ?_ | refine zcl ?_ | refine zcm ?_ | refine zcn ?_)
  refine zcj rfl ?_
  refine zcs rfl ?_
  repeat (first | refine zck ?_ | refine zcl ?_ | refine zcm ?_ | refine zcn ?_)
  first | refine zcp (by kernel_rfl) ?_ | refine zcq PP_mixed (by kernel_rfl) (by kernel_rfl) ?_
  repeat' (refine zap rfl ?_; first | ((with_reducible refine zcv ?_); refine zan rfl ?_))
  all_goals refine zch ?_
  all_goals repeat (refine zck ?_)
  refine run_share [1] rfl ?_
  refine run_share [1] rfl ?_
  refine run_slots [(1, spP p), (4, .pointer (some ⟨_, 0, none⟩)), (10, .pointer (some ⟨_, 0, none⟩)), (12, .pointer (some ⟨_, 0, none⟩)), (13, .pointer (some ⟨_, 0, none⟩)), (17, .int .i64 0)] ⟨rfl, rfl, rfl, rfl, rfl, rfl, trivial⟩ (fun junk => ?_)
  simp only [Fo.hang, Pg.bind_assoc, Pg.pure_bind] at hG
  by_cases hc1 : v < u
  · rw [if_pos (.inl hc1)] at hG
    repeat' (first | refine zck ?_ | refine zcp (by kernel_rfl) ?_ | refine zcq PP_mixed (by kernel_rfl) (by kernel_rfl) ?_ | (refine zap rfl ?_; first | refine reg_add (t := 2) rfl rfl ?_ | ((with_reducible refine zct ?_); first | refine zak rfl ?_ | refine zal rfl ?_) | ((with_reducible refine zcu ?_); refine zan rfl ?_) | ((with_reducible refine zcv ?_); refine zan rfl ?_) | ((with_reducible refine zcw ?_); first | refine zaa 0 rfl rfl rfl ?_ | refine zaa 1 rfl rfl rfl ?_ | refine zaa 2 rfl rfl rfl ?_ | refine zaa 3 rfl rfl rfl ?_) | ((with_reducible refine zcx ?_); first | refine reg_callG [0] hG (getG w0 p _) rfl rfl rfl sub_nil (fun u s hG => ?_) | refine reg_callG [0] hG (putG w0 p _ _) rfl rfl rfl sub_nil (fun u s hG => ?_) | refine reg_callG [0] hG (foAdd w0 p _ _) rfl rfl rfl sub_nil (fun u s hG => ?_)) | ((with_reducible refine zcy ?_); refine zao rfl ?_) | ((with_reducible refine zda ?_); first | refine zbg rfl rfl (by omega) ?_ | refine reg_addZ rfl rfl (by omega) ?_ | refine zau rfl rfl (by omega) ?_ | refine zav rfl rfl (by omega) ?_) | ((with_reducible refine zdc ?_); refine zbu rfl ?_) | ((with_reducible refine zdf ?_); refine zat rfl rfl (by omega) ?_)) | refine zch ?_ | refine zci rfl ?_)
    rw [hG.done]
    exact ret_tmp2 rfl ⟨rfl, rfl⟩
  by_cases hc2 : v = u
  · by_cases hc3 : r.1.1 < r.1.2
    · rw [if_pos (.inr ⟨hc2, hc3⟩)] at hG
      repeat' (first | refine zck ?_ | refine zcp (by kernel_rfl) ?_ | refine zcq PP_mixed (by kernel_rfl) (by kernel_rfl) ?_ | (refine zap rfl ?_; first | refine reg_add (t := 2) rfl rfl ?_ | ((with_reducible refine zct ?_); refine zaj rfl ?_) | ((with_reducible refine zcu ?_); refine zan rfl ?_) | ((with_reducible refine zcv ?_); refine zan rfl ?_) | ((with_reducible refine zcw ?_); first | refine zaa 0 rfl rfl rfl ?_ | refine zaa 1 rfl rfl rfl ?_ | refine zaa 2 rfl rfl rfl ?_ | refine zaa 3 rfl rfl rfl ?_) | ((with_reducible refine zcx ?_); first | refine reg_callG [0] hG (getG w0 p _) rfl rfl rfl sub_nil (fun u s hG => ?_) | refine reg_callG [0] hG (putG w0 p _ _) rfl rfl rfl sub_nil (fun u s hG => ?_) | refine reg_callG [0] hG (foAdd w0 p _ _) rfl rfl rfl sub_nil (fun u s hG => ?_)) | ((with_reducible refine zcy ?_); refine zao rfl ?_) | ((with_reducible refine zda ?_); first | refine zbc rfl rfl (by omega) ?_ | refine zbh rfl rfl (by omega) ?_ | refine zbk rfl rfl (by omega) ?_ | refine reg_addZ rfl rfl (by omega) ?_ | refine zau rfl rfl (by omega) ?_ | refine zav rfl rfl (by omega) ?_) | ((with_reducible refine zdc ?_); first | refine zbu rfl ?_ | refine zbv rfl ?_) | ((with_reducible refine zdf ?_); refine zat rfl rfl (by omega) ?_)) | refine zch ?_ | refine zci rfl ?_)
      rw [hG.done]
      exact ret_tmp2 rfl ⟨rfl, rfl⟩
    · rw [if_neg (by omega)] at hG
      repeat' (first | refine zck ?_ | refine zcp (by kernel_rfl) ?_ | refine zcq PP_mixed (by kernel_rfl) (by kernel_rfl) ?_ | refine zcm ?_ | (refine zap rfl ?_; first | refine reg_add (t := 2) rfl rfl ?_ | ((with_reducible refine zct ?_); refine zaj rfl ?_) | ((with_reducible refine zcu ?_); refine zan rfl ?_) | ((with_reducible refine zcv ?_); refine zan rfl ?_) | ((with_reducible refine zcw ?_); first | refine zaa 0 rfl rfl rfl ?_ | refine zaa 1 rfl rfl rfl ?_ | refine zaa 2 rfl rfl rfl ?_ | refine zaa 3 rfl rfl rfl ?_) | ((with_reducible refine zcx ?_); first | refine reg_callG [0] hG (getG w0 p _) rfl rfl rfl sub_nil (fun u s hG => ?_) | refine reg_callG [0] hG (putG w0 p _ _) rfl rfl rfl sub_nil (fun u s hG => ?_) | refine reg_callG [0] hG (foAdd w0 p _ _) rfl rfl rfl sub_nil (fun u s hG => ?_)) | ((with_reducible refine zcy ?_); refine zao rfl ?_) | ((with_reducible refine zda ?_); first | refine zbc rfl rfl (by omega) ?_ | refine zbh rfl rfl (by omega) ?_ | refine zbl rfl rfl (by omega) ?_ | refine reg_addZ rfl rfl (by omega) ?_ | refine zau rfl rfl (by omega) ?_ | refine zav rfl rfl (by omega) ?_) | ((with_reducible refine zdc ?_); first | refine zbu rfl ?_ | refine zbv rfl ?_) | ((with_reducible refine zdf ?_); refine zat rfl rfl (by omega) ?_)) | refine zch ?_ | refine zcj rfl ?_)
      rw [hG.done]
      exact ret_tmp2 rfl ⟨rfl, rfl⟩
  · rw [if_neg (by omega)] at hG
    repeat' (first | refine zck ?_ | refine zcp (by kernel_rfl) ?_ | refine zcq PP_mixed (by kernel_rfl) (by kernel_rfl) ?_ | refine zcm ?_ | (refine zap rfl ?_; first | refine reg_add (t := 2) rfl rfl ?_ | ((with_reducible refine zct ?_); first | refine zaj rfl ?_ | refine zak rfl ?_) | ((with_reducible refine zcu ?_); refine zan rfl ?_) | ((with_reducible refine zcv ?_); refine zan rfl ?_) | ((with_reducible refine zcw ?_); first | refine zaa 0 rfl rfl rfl ?_ | refine zaa 1 rfl rfl rfl ?_ | refine zaa 2 rfl rfl rfl ?_ | refine zaa 3 rfl rfl rfl ?_) | ((with_reducible refine zcx ?_); first | refine reg_callG [0] hG (getG w0 p _) rfl rfl rfl sub_nil (fun u s hG => ?_) | refine reg_callG [0] hG (putG w0 p _ _) rfl rfl rfl sub_nil (fun u s hG => ?_) | refine reg_callG [0] hG (foAdd w0 p _ _) rfl rfl rfl sub_nil (fun u s hG => ?_)) | ((with_reducible refine zcy ?_); refine zao rfl ?_) | ((with_reducible refine zda ?_); first | refine zbd rfl rfl (by omega) ?_ | refine zbh rfl rfl (by omega) ?_ | refine reg_addZ rfl rfl (by omega) ?_ | refine zau rfl rfl (by omega) ?_ | refine zav rfl rfl (by omega) ?_) | ((with_reducible refine zdc ?_); refine zbv rfl ?_) | ((with_reducible refine zdf ?_); refine zat rfl rfl (by omega) ?_)) | refine zch ?_ | refine zcj rfl ?_)
    rw [hG.done]
    exact ret_tmp2 rfl ⟨rfl, rfl⟩
end Go.Proofs.Ytpcnbaddkblbhaa

/- The walks of package forest: Undo, room. -/
namespace Go.Proofs.Ytpcnbaddkblbhaa
open Go.Vc Sim
set_option maxHeartbeats 4000000
theorem foUndo (w0 : World) (p : Nat) (F : Fo) (hF : F.Ok) : FnG w0 [] 23 [foV F, spP p] p F.undo encBI := by
  obtain ⟨_, h1, h2⟩ := id hF
  intro s hS; have hG := At.start hS; generalize Pg.run _ s = R at hG ⊢
  refine fn_of_run en23 fn23 rfl rfl rfl ?_
  repeat (first | refine zck ?_ | refine zcl ?_ | refine zcm ?_ | refine zcn ?_)
  first | refine zcp (by kernel_rfl) ?_ | refine zcq PP_mixed (by kernel_rfl) (by kernel_rfl) ?_
  repeat' (refine zap rfl ?_; first | ((with_reducible refine zcv ?_); refine zan rfl ?_) | ((with_reducible refine zdg ?_); refine zaq (cs := [_, _, _, _]) rfl (fun nb => ?_)))
  all_goals refine zch ?_
  all_goals repeat (first | refine zck ?_ | refine zcl ?_ | refine zcm ?_ | refine zcn ?_)
  refine run_share [1] rfl ?_
  repeat' (first | refine zck ?_ | refine zcp (by kernel_rfl) ?_ | (refine zap rfl ?_; first | ((with_reducible refine zcu ?_); refine zan rfl ?_) | ((with_reducible refine zcv ?_); refine zan rfl ?_) | ((with_reducible refine zcw ?_); refine zaa 0 rfl rfl rfl ?_) | ((with_reducible refine zcx ?_); refine reg_callG [0] hG (getG w0 p _) rfl rfl rfl sub_nil (fun last s hG => ?_)) | ((with_reducible refine zcy ?_); refine zao rfl ?_) | ((with_reducible refine zda ?_); first | refine zau rfl rfl (by omega) ?_ | refine zbo rfl rfl ?_)) | refine zch ?_)
  refine run_cond rfl (fun hE => ?_) (fun hE => ?_)
  · rw [if_pos hE] at hG
    rw [hG.done]
    repeat' (first | refine zck ?_ | refine zcp (by kernel_rfl) ?_ | (refine zap rfl ?_; first | ((with_reducible refine zcv ?_); refine zan rfl ?_)) | refine zch ?_)
    exact ret_tmp2 rfl ⟨rfl, rfl⟩
  rw [if_neg hE] at hG
  repeat (first | refine zck ?_ | refine zcl ?_ | refine zcm ?_ | refine zcn ?_)
  first | refine zcp (by kernel_rfl) ?_ | refine zcq PP_mixed (by kernel_rfl) (by kernel_rfl) ?_
  repeat' (refine zap rfl ?_; first | ((with_reducible refine zcu ?_); refine zan rfl ?_) | ((with_reducible refine zcv ?_); refine zan rfl ?_) | ((with_reducible refine zcw ?_); refine zaa 0 rfl rfl rfl ?_) | ((with_reducible refine zcx ?_); refine reg_callGP [0] hG F.all_many (foMany w0 p F hF) rfl rfl rfl sub_nil (fun n s hn hG => ?_)) | ((with_reducible refine zcz ?_); refine zan rfl ?_))
  all_goals refine zch ?_
  all_goals repeat (first | refine zck ?_ | refine zcl ?_ | refine zcm ?_ | refine zcn ?_)
  by_cases hc : n.2 = true ∧ 1 ≤ last ∧ last ≤ n.1
  · rw [if_pos hc] at hG
    obtain ⟨hc1, hc2, hc3⟩ := hc
    have hn := hn hc1
    obtain ⟨n1, n2⟩ := n
    dsimp only at hc1 hc3 hn hG
    subst hc1
    repeat' (first | refine zck ?_ | refine zcp (by kernel_rfl) ?_ | refine zcm ?_ | (refine zap rfl ?_; first | refine zbx rfl ?_ | ((with_reducible refine zct ?_); refine zaj rfl ?_) | ((with_reducible refine zcu ?_); refine zan rfl ?_) | ((with_reducible refine zcv ?_); refine zan rfl ?_) | ((with_reducible refine zcw ?_); refine zaa 0 rfl rfl rfl ?_) | ((with_reducible refine zcx ?_); refine reg_callGP [0] hG (F.all_place last) (foPlace w0 p F hF last ⟨hc2, by omega⟩) rfl rfl rfl sub_nil (fun a s ha hG => ?_)) | ((with_reducible refine zcz ?_); refine zan rfl ?_) | ((with_reducible refine zda ?_); first | refine zbh rfl rfl (by omega) ?_ | refine zbl rfl rfl (by omega) ?_) | ((with_reducible refine zdc ?_); refine zbv rfl ?_)) | refine zch ?_ | refine zcj rfl ?_)
    refine run_condV rfl (fun hE => ?_) (fun hE => ?_)
    · have hE : a.2 = false := by simpa using hE
      simp only [hE, Bool.false_eq_true, if_false] at hG
      rw [hG.done]
      repeat' (first | refine zck ?_ | refine zcp (by kernel_rfl) ?_ | (refine zap rfl ?_; first | ((with_reducible refine zcv ?_); refine zan rfl ?_)) | refine zch ?_)
      exact ret_tmp2 rfl ⟨rfl, rfl⟩
    have hE : a.2 = true := by simpa using hE
    simp only [hE, if_true] at hG
    repeat (first | refine zck ?_ | refine zcl ?_ | refine zcm ?_ | refine zcn ?_)
    first | refine zcp (by kernel_rfl) ?_ | refine zcq PP_mixed (by kernel_rfl) (by kernel_rfl) ?_
    repeat' (refine zap rfl ?_; first | ((with_reducible refine zcu ?_); refine zan rfl ?_) | ((with_reducible refine zcv ?_); refine zan rfl ?_) | ((with_reducible refine zcx ?_); refine reg_callG [0] hG (getG w0 p _) rfl rfl rfl sub_nil (fun up s hG => ?_)) | ((with_reducible refine zda ?_); refine reg_addZ rfl rfl (by omega) ?_))
    all_goals refine zch ?_
    all_goals repeat (first | refine zck ?_ | refine zcl ?_ | refine zcm ?_ | refine zcn ?_)
    by_cases hc : up < 1 ∨ n1 < up
    · rw [if_pos hc] at hG
      rw [hG.done]
      by_cases hc4 : up < 1
      · repeat' (first | refine zck ?_ | refine zcp (by kernel_rfl) ?_ | (refine zap rfl ?_; first | ((with_reducible refine zct ?_); refine zak rfl ?_) | ((with_reducible refine zcu ?_); refine zan rfl ?_) | ((with_reducible refine zcv ?_); refine zan rfl ?_) | ((with_reducible refine zda ?_); refine zbg rfl rfl (by omega) ?_) | ((with_reducible refine zdc ?_); refine zbu rfl ?_)) | refine zch ?_ | refine zci rfl ?_)
        exact ret_tmp2 rfl ⟨rfl, rfl⟩
      · repeat' (first | refine zck ?_ | refine zcp (by kernel_rfl) ?_ | (refine zap rfl ?_; first | ((with_reducible refine zct ?_); refine zaj rfl ?_) | ((with_reducible refine zcu ?_); refine zan rfl ?_) | ((with_reducible refine zcv ?_); refine zan rfl ?_) | ((with_reducible refine zda ?_); first | refine zbh rfl rfl (by omega) ?_ | refine zbk rfl rfl (by omega) ?_) | ((with_reducible refine zdc ?_); refine zbv rfl ?_)) | refine zch ?_ | refine zci rfl ?_)
        exact ret_tmp2 rfl ⟨rfl, rfl⟩
    rw [if_neg hc] at hG
    repeat' (first | refine zck ?_ | refine zcp (by kernel_rfl) ?_ | refine zcm ?_ | (refine zap rfl ?_; first | ((with_reducible refine zct ?_); refine zaj rfl ?_) | ((with_reducible refine zcu ?_); refine zan rfl ?_) | ((with_reducible refine zcv ?_); refine zan rfl ?_) | ((with_reducible refine zcw ?_); refine zaa 0 rfl rfl rfl ?_) | ((with_reducible refine zcx ?_); refine reg_callGP [0] hG (F.all_place up) (foPlace w0 p F hF up ⟨by omega, by omega⟩) rfl rfl rfl sub_nil (fun b s hb hG => ?_)) | ((with_reducible refine zcz ?_); refine zan rfl ?_) | ((with_reducible refine zda ?_); first | refine zbh rfl rfl (by omega) ?_ | refine zbl rfl rfl (by omega) ?_) | ((with_reducible refine zdb ?_); refine zbx rfl ?_) | ((with_reducible refine zdc ?_); refine zbv rfl ?_)) | refine zch ?_ | refine zcj rfl ?_)
    refine run_condV rfl (fun hE => ?_) (fun hE => ?_)
    · have hE : b.2 = false := by simpa using hE
      simp only [hE, Bool.false_eq_true, if_false] at hG
      rw [hG.done]
      repeat' (first | refine zck ?_ | refine zcp (by kernel_rfl) ?_ | (refine zap rfl ?_; first | ((with_reducible refine zcv ?_); refine zan rfl ?_)) | refine zch ?_)
      exact ret_tmp2 rfl ⟨rfl, rfl⟩
    have hE : b.2 = true := by simpa using hE
    simp only [hE, if_true] at hG
    repeat (first | refine zck ?_ | refine zcl ?_ | refine zcm ?_ | refine zcn ?_ | refine zco ?_)
    refine run_slots [(1, spP p), (2, .pointer (some ⟨_, 0, none⟩)), (9, .int .i64 a.1), (11, .int .i64 b.1)] ⟨rfl, rfl, rfl, rfl, trivial⟩ (fun junk => ?_)
    repeat' (first | refine zck ?_ | refine zcp (by kernel_rfl) ?_ | refine zcq PP_mixed (by kernel_rfl) (by kernel_rfl) ?_ | (refine zap rfl ?_; first | refine reg_neg (t := 2) rfl ?_ | ((with_reducible refine zcu ?_); refine zan rfl ?_) | ((with_reducible refine zcv ?_); refine zan rfl ?_) | ((with_reducible refine zcw ?_); refine zaa 0 rfl rfl rfl ?_) | ((with_reducible refine zcx ?_); first | refine reg_callG [0] hG (getG w0 p _) rfl rfl rfl sub_nil (fun u s hG => ?_) | refine reg_callG [0] hG (putG w0 p _ _) rfl rfl rfl sub_nil (fun u s hG => ?_) | refine reg_callG [0] hG (foAdd w0 p _ _) rfl rfl rfl sub_nil (fun u s hG => ?_)) | ((with_reducible refine zcy ?_); refine zao rfl ?_) | ((with_reducible refine zda ?_); first | refine reg_addZ rfl rfl (by omega) ?_ | refine zau rfl rfl (by omega) ?_)) | refine zch ?_)
    rw [hG.done]
    exact ret_tmp2 rfl ⟨rfl, rfl⟩
  · rw [if_neg hc] at hG
    rw [hG.done]
    obtain ⟨n1, n2⟩ := n
    dsimp only at hc hn
    cases n2 with
    | false =>
      repeat' (first | refine zck ?_ | refine zcp (by kernel_rfl) ?_ | (refine zap rfl ?_; first | refine zbx rfl ?_ | ((with_reducible refine zct ?_); refine zak rfl ?_) | ((with_reducible refine zcu ?_); refine zan rfl ?_) | ((with_reducible refine zcv ?_); refine zan rfl ?_) | ((with_reducible refine zdc ?_); refine zbu rfl ?_)) | refine zch ?_ | refine zci rfl ?_)
      exact ret_tmp2 rfl ⟨rfl, rfl⟩
    | true =>
      have hc : ¬ (1 ≤ last ∧ last ≤ n1) := fun h => hc ⟨rfl, h⟩
      by_cases hc4 : last < 1
      · repeat' (first | refine zck ?_ | refine zcp (by kernel_rfl) ?_ | (refine zap rfl ?_; first | refine zbx rfl ?_ | ((with_reducible refine zct ?_); first | refine zaj rfl ?_ | refine zak rfl ?_) | ((with_reducible refine zcu ?_); refine zan rfl ?_) | ((with_reducible refine zcv ?_); refine zan rfl ?_) | ((with_reducible refine zda ?_); refine zbg rfl rfl (by omega) ?_) | ((with_reducible refine zdc ?_); first | refine zbu rfl ?_ | refine zbv rfl ?_)) | refine zch ?_ | refine zci rfl ?_)
        exact ret_tmp2 rfl ⟨rfl, rfl⟩
      · repeat' (first | refine zck ?_ | refine zcp (by kernel_rfl) ?_ | (refine zap rfl ?_; first | refine zbx rfl ?_ | ((with_reducible refine zct ?_); refine zaj rfl ?_) | ((with_reducible refine zcu ?_); refine zan rfl ?_) | ((with_reducible refine zcv ?_); refine zan rfl ?_) | ((with_reducible refine zda ?_); first | refine zbh rfl rfl (by omega) ?_ | refine zbk rfl rfl (by omega) ?_) | ((with_reducible refine zdc ?_); refine zbv rfl ?_)) | refine zch ?_ | refine zci rfl ?_)
        exact ret_tmp2 rfl ⟨rfl, rfl⟩
theorem foRoom (w0 : World) (p : Nat) (F : Fo) (hF : F.Ok) (x : Int) (hx : 1 ≤ x ∧ x ≤ 64) : FnG w0 [] 48 [foV F, spP p, .int .i64 x] p (F.room x) (.int .i64) := by
  obtain ⟨_, h1, h2⟩ := id hF
  intro s hS; have hG := At.start hS; generalize Pg.run _ s = R at hG ⊢
  refine fn_of_run en48 fn48 rfl rfl rfl ?_
  repeat (first | refine zck ?_ | refine zcl ?_ | refine zcm ?_ | refine zcn ?_)
  first | refine zcp (by kernel_rfl) ?_ | refine zcq PP_mixed (by kernel_rfl) (by kernel_rfl) ?_
  repeat' (refine zap rfl ?_; first | ((with_reducible refine zcv ?_); refine zan rfl ?_) | ((with_reducible refine zdg ?_); refine zaq (cs := [_, _, _, _]) rfl (fun nb => ?_)))
  all_goals refine zch ?_
  all_goals repeat (first | refine zck ?_ | refine zcl ?_ | refine zcm ?_ | refine zcn ?_)
  refine run_share [1] rfl ?_
  by_cases c1 : (x - 1) % 2 ≠ 0
  · rw [Fo.room, if_pos c1] at hG
    rw [hG.done]
    repeat' (first | refine zck ?_ | refine zcp (by kernel_rfl) ?_ | (refine zap rfl ?_; first | ((with_reducible refine zcu ?_); refine zan rfl ?_) | ((with_reducible refine zcv ?_); refine zan rfl ?_) | ((with_reducible refine zda ?_); first | refine zbe rfl rfl (by omega) ?_ | refine zav rfl rfl (by omega) ?_ | refine zax rfl rfl (by omega) ?_ | refine zay rfl rfl (by omega) ?_)) | refine zch ?_ | refine zci rfl ?_)
    exact ret_tmp1 rfl ⟨rfl, rfl⟩
  rw [Fo.room, if_neg c1] at hG
  repeat (first | refine zck ?_ | refine zcl ?_ | refine zcm ?_ | refine zcn ?_)
  first | refine zcp (by kernel_rfl) ?_ | refine zcq PP_mixed (by kernel_rfl) (by kernel_rfl) ?_
  repeat' (refine zap rfl ?_; first | ((with_reducible refine zcu ?_); refine zan rfl ?_) | ((with_reducible refine zcv ?_); refine zan rfl ?_) | ((with_reducible refine zda ?_); first | refine zav rfl rfl (by omega) ?_ | refine zax rfl rfl (by omega) ?_))
  all_goals refine zch ?_
  all_goals repeat (first | refine zck ?_ | refine zcl ?_ | refine zcm ?_ | refine zcn ?_)
  repeat (first | refine zck ?_ | refine zcl ?_ | refine zcm ?_ | refine zcn ?_)
  first | refine zcp (by kernel_rfl) ?_ | refine zcq PP_mixed (by kernel_rfl) (by kernel_rfl) ?_
  repeat' (refine zap rfl ?_; first | ((with_reducible refine zcu ?_); refine zan rfl ?_) | ((with_reducible refine zda ?_); first | refine zbf rfl rfl (by omega) ?_ | refine zav rfl rfl (by omega) ?_ | refine zay rfl rfl (by omega) ?_))
  all_goals refine zch ?_
  all_goals repeat (first | refine zck ?_ | refine zcl ?_ | refine zcm ?_ | refine zcn ?_)
  refine zcj rfl ?_
  repeat (first | refine zck ?_ | refine zcl ?_ | refine zcm ?_ | refine zcn ?_)
  first | refine zcp (by kernel_rfl) ?_ | refine zcq PP_mixed (by kernel_rfl) (by kernel_rfl) ?_
  repeat' (refine zap rfl ?_; first | ((with_reducible refine zcu ?_); refine zan rfl ?_) | ((with_reducible refine zda ?_); first | refine zbo rfl rfl ?_ | refine zay rfl rfl (by omega) ?_))
  all_goals refine zch ?_
  all_goals repeat (first | refine zck ?_ | refine zcl ?_ | refine zcm ?_ | refine zcn ?_)
  refine run_bind_eq2 (σ := { s : Sp // At R (F.roomN x) s }) (l' := fun _ => [(1, spP p), (2, .int .i64 x), (3, .pointer (some ⟨nb, 0, none⟩))]) (Γ' := fun st => [SpaceA p st.1]) ?_ (fun ⟨s, hG⟩ junk => ?_)
  · refine run_cond rfl (fun c2 => ?_) (fun c2 => ?_)
    · rw [if_pos c2] at hG
      repeat' (first | refine zck ?_ | refine zcp (by kernel_rfl) ?_ | (refine zap rfl ?_; first | ((with_reducible refine zcu ?_); refine zan rfl ?_) | ((with_reducible refine zcv ?_); refine zan rfl ?_) | ((with_reducible refine zcw ?_); refine zaa 0 rfl rfl rfl ?_) | ((with_reducible refine zcx ?_); refine reg_callG [0] hG (foTake w0 p F hF) rfl rfl rfl sub_nil (fun t s hG => ?_)) | ((with_reducible refine zcz ?_); refine zan rfl ?_) | ((with_reducible refine zda ?_); refine zbp rfl rfl ?_)) | refine zch ?_)
      refine run_cond rfl (fun hE => ?_) (fun hE => ?_)
      · rw [if_pos hE] at hG
        rw [hG.done]
        repeat' (first | refine zck ?_ | refine zcp (by kernel_rfl) ?_ | (refine zap rfl ?_; first | ((with_reducible refine zcu ?_); refine zan rfl ?_) | ((with_reducible refine zcv ?_); refine zan rfl ?_)) | refine zch ?_)
        exact qret1 (fun _ _ h => h) rfl ⟨rfl, rfl⟩
      rw [if_neg hE] at hG
      repeat' (first | refine zcp (by kernel_rfl) ?_ | refine zcm ?_ | (refine zap rfl ?_; first | ((with_reducible refine zcu ?_); refine zan rfl ?_) | ((with_reducible refine zcw ?_); refine zaa 0 rfl rfl rfl ?_) | ((with_reducible refine zcx ?_); refine reg_callG [0] hG (putG w0 p _ _) rfl rfl rfl sub_nil (fun u s hG => ?_)) | ((with_reducible refine zcy ?_); refine zao rfl ?_) | ((with_reducible refine zda ?_); first | refine zau rfl rfl (by omega) ?_ | refine zax rfl rfl (by omega) ?_)) | refine zch ?_)
      exact cut_end ⟨rfl, ⟨_, hG⟩, ⟨rfl, rfl, rfl, trivial⟩, rfl⟩
    · rw [if_neg c2] at hG
      repeat' (first | refine zcm ?_ | (refine zap rfl ?_; first | ((with_reducible refine zcu ?_); refine zan rfl ?_)) | refine zch ?_)
      exact cut_end ⟨rfl, ⟨_, hG⟩, ⟨rfl, rfl, rfl, trivial⟩, rfl⟩
  dsimp only
  unfold Fo.roomN at hG
  repeat' (first | refine zck ?_ | refine zcp (by kernel_rfl) ?_ | (refine zap rfl ?_; first | ((with_reducible refine zcu ?_); refine zan rfl ?_) | ((with_reducible refine zcv ?_); refine zan rfl ?_) | ((with_reducible refine zcw ?_); refine zaa 0 rfl rfl rfl ?_) | ((with_reducible refine zcx ?_); refine reg_callGP [0] hG (F.all_cell x) (foCell w0 p F hF x (by omega)) rfl rfl rfl sub_nil (fun c s hb hG => ?_)) | ((with_reducible refine zcz ?_); refine zan rfl ?_) | ((with_reducible refine zdb ?_); refine zbx rfl ?_)) | refine zch ?_)
  refine run_condV rfl (fun hE => ?_) (fun hE => ?_)
  · have hE : c.2 = false := by simpa using hE
    simp only [hE, Bool.false_eq_true, if_false] at hG
    rw [hG.done]
    repeat' (first | refine zck ?_ | refine zcp (by kernel_rfl) ?_ | (refine zap rfl ?_; first | ((with_reducible refine zcv ?_); refine zan rfl ?_)) | refine zch ?_)
    exact ret_tmp1 rfl ⟨rfl, rfl⟩
  have hE : c.2 = true := by simpa using hE
  simp only [hE, if_true] at hG
  repeat' (first | refine zck ?_ | refine zcp (by kernel_rfl) ?_ | refine zcm ?_ | (refine zap rfl ?_; first | ((with_reducible refine zcu ?_); refine zan rfl ?_) | ((with_reducible refine zcv ?_); refine zan rfl ?_) | ((with_reducible refine zcw ?_); refine zaa 0 rfl rfl rfl ?_) | ((with_reducible refine zcx ?_); refine reg_callG [0] hG (foTake w0 p F hF) rfl rfl rfl sub_nil (fun t s hG => ?_)) | ((with_reducible refine zcz ?_); refine zan rfl ?_) | ((with_reducible refine zda ?_); refine zbp rfl rfl ?_)) | refine zch ?_)
  refine run_cond rfl (fun hE => ?_) (fun hE => ?_)
  · rw [if_pos hE] at hG
    rw [hG.done]
    repeat' (first | refine zck ?_ | refine zcp (by kernel_rfl) ?_ | (refine zap rfl ?_; first | ((with_reducible refine zcu ?_); refine zan rfl ?_) | ((with_reducible refine zcv ?_); refine zan rfl ?_)) | refine zch ?_)
    exact ret_tmp1 rfl ⟨rfl, rfl⟩
  rw [if_neg hE] at hG
  repeat' (first | refine zck ?_ | refine zcp (by kernel_rfl) ?_ | refine zcm ?_ | (refine zap rfl ?_; first | ((with_reducible refine zcu ?_); refine zan rfl ?_) | ((with_reducible refine zcv ?_); refine zan rfl ?_) | ((with_reducible refine zcx ?_); refine reg_callG [0] hG (putG w0 p _ _) rfl rfl rfl sub_nil (fun u s hG => ?_))) | refine zch ?_)
  rw [hG.done]
  exact ret_tmp1 rfl ⟨rfl, rfl⟩
end Go.Proofs.Ytpcnbaddkblbhaa

