import Derived.Sort.AssemblyPlain
import Derived.Test.YtpcnbaddkblbhaaPart4
import Derived.Test.YtpcnbaddkblbhaaPart2
import Derived.Test.YtpcnbaddkblbhaaKit
/- Lemmas and walks for the claims of this seat (own work): Fa2 So0 So1 So2 So3 So4 So5. -/
/- entry.Check. -/
namespace Go.Proofs.Ytpcnbaddkblbhaa
open Go.Vc Sim
def chkI (es : List En) : List En → Nat → Int
  | [], _ => 0
  | e :: l, i => if wrongI e ≠ 0 then wrongI e else if 0 ≤ idxI e.loc (es.take i) 0 then 11 else chkI es l (i + 1)
def checkI (es : List En) : Int := if es.length = 0 then 8 else if 32 < es.length then 15 else chkI es es 0
set_option maxHeartbeats 2000000
theorem echeck_spec (w0 : World) (a : Option Addr) (cap : Nat) (es : List En) (hr : ∀ e ∈ es, e.old.ref = 0) (hl : es.length ≤ 1099511627776) :
    FnE PP w0 [] 64 [.slice a es.length cap] [EnA a cap es] (.int .i64 (checkI es)) [EnA a cap es] := by
  refine fn_of_run en64 fn64 rfl rfl rfl ?_
  unfold checkI
  by_cases h0 : es.length = 0
  · rw [if_pos h0]
    repeat' (first | refine zck ?_ | refine zcp (by kernel_rfl) ?_ | refine zcl ?_ | (refine zap rfl ?_; first | ((with_reducible refine zcu ?_); refine zan rfl ?_) | ((with_reducible refine zcv ?_); refine zan rfl ?_) | ((with_reducible refine zcx ?_); refine zce rfl ?_) | ((with_reducible refine zda ?_); refine zbc rfl rfl (by omega) ?_)) | refine zch ?_ | refine zci rfl ?_)
    exact ret_tmp1 rfl ⟨rfl, rfl⟩
  · rw [if_neg h0]
    by_cases h1 : 32 < es.length
    · rw [if_pos h1]
      repeat' (first | refine zck ?_ | refine zcp (by kernel_rfl) ?_ | refine zcl ?_ | (refine zap rfl ?_; first | ((with_reducible refine zcu ?_); refine zan rfl ?_) | ((with_reducible refine zcv ?_); refine zan rfl ?_) | ((with_reducible refine zcx ?_); refine zce rfl ?_) | ((with_reducible refine zda ?_); first | refine zbd rfl rfl (by omega) ?_ | refine zbk rfl rfl (by omega) ?_)) | refine zch ?_ | refine zci rfl ?_ | refine zcj rfl ?_)
      exact ret_tmp1 rfl ⟨rfl, rfl⟩
    · rw [if_neg h1]
      refine run_sl_cases 0 rfl (fun _ h _ _ => absurd h h0) ?_
      intro bb h2 h3 h4
      subst h2
      repeat' (first | refine zck ?_ | refine zcp (by kernel_rfl) ?_ | refine zcm ?_ | refine zcl ?_ | refine zcn ?_ | (refine zap rfl ?_; first | ((with_reducible refine zcu ?_); refine zan rfl ?_) | ((with_reducible refine zcv ?_); refine zan rfl ?_) | ((with_reducible refine zcx ?_); refine zce rfl ?_) | ((with_reducible refine zda ?_); first | refine zbd rfl rfl (by omega) ?_ | refine zbl rfl rfl (by omega) ?_)) | refine zch ?_ | refine zcj rfl ?_)
      refine run_loop (S := Nat) (fun j => [(0, .slice (some ⟨bb, 0, none⟩) es.length cap), (14, .slice (some ⟨bb, 0, none⟩) es.length cap), (15, .int .i64 es.length), (16, .int .i64 j)])
        (fun j Γ => Γ = [EnA (some ⟨bb, 0, none⟩) cap es] ∧ j ≤ es.length ∧ chkI es (es.drop j) j = chkI es es 0)
        (fun j => es.length - j) 0 ⟨rfl, rfl, rfl, rfl, trivial⟩ ⟨rfl, by omega, rfl⟩ ?_
      rintro j Γ junk ⟨rfl, g1, g2⟩
      by_cases hj : j < es.length
      · obtain ⟨e, he⟩ : ∃ e, es[j]? = some e := ⟨_, List.getElem?_eq_getElem hj⟩
        have hd : es.drop j = e :: es.drop (j + 1) := by
          rw [List.drop_eq_getElem_cons hj]
          congr 1
          exact (List.getElem?_eq_some_iff.1 he).2
        have hrd := flatE_rd he
        have hW := wrong_spec w0 e (hr e (List.mem_of_getElem? he))
        rw [hd, chkI] at g2
        repeat' (first | refine zck ?_ | refine zcp (by kernel_rfl) ?_ | refine zcm ?_ | refine zcl ?_ | (refine zap rfl ?_; first | refine zag 0 rfl rfl (hrd _ (by omega)) (by intro _; omega) ?_ | ((with_reducible refine zcu ?_); refine zan rfl ?_) | ((with_reducible refine zcv ?_); refine zan rfl ?_) | ((with_reducible refine zcw ?_); refine zab 1 rfl rfl rfl ?_) | ((with_reducible refine zcx ?_); refine zah [] hW rfl rfl rfl sub_nil rfl ?_) | ((with_reducible refine zda ?_); first | refine zbg rfl rfl (by omega) ?_ | refine zbp rfl rfl ?_) | ((with_reducible refine zdd ?_); refine zae 1 rfl rfl rfl rfl rfl rfl rfl ?_) | ((with_reducible refine zdf ?_); refine zas rfl rfl (by omega) ?_) | ((with_reducible refine zdh ?_); refine zar (fun nb => ?_))) | refine zch ?_ | refine zci rfl ?_)
        refine run_cond rfl (fun hE => ?_) (fun hE => ?_)
        · rw [if_pos hE] at g2
          repeat' (first | refine zck ?_ | refine zcp (by kernel_rfl) ?_ | (refine zap rfl ?_; first | ((with_reducible refine zcu ?_); refine zan rfl ?_) | ((with_reducible refine zcv ?_); refine zan rfl ?_)) | refine zch ?_)
          refine run_take [0] rfl ?_
          exact qret1 (fun _ _ h => h) rfl ⟨by rw [← g2]; rfl, rfl⟩
        · rw [if_neg hE] at g2
          repeat' (first | refine zck ?_ | refine zcp (by kernel_rfl) ?_ | refine zcm ?_ | (refine zap rfl ?_; first | refine reg_slice2 rfl rfl (by omega) ?_ | refine zan rfl ?_ | ((with_reducible refine zcx ?_); refine zah [0, 0] (contains_spec w0 _ cap es e nb j (by omega) hl) rfl rfl rfl sub_nil rfl ?_)) | refine zch ?_)
          refine run_cond rfl (fun hE => ?_) (fun hE => ?_)
          · rw [if_pos hE] at g2
            repeat' (first | refine zck ?_ | refine zcp (by kernel_rfl) ?_ | (refine zap rfl ?_; first | ((with_reducible refine zcv ?_); refine zan rfl ?_)) | refine zch ?_)
            refine run_take [0] rfl ?_
            exact qret1 (fun _ _ h => h) rfl ⟨by rw [← g2]; rfl, rfl⟩
          · rw [if_neg hE] at g2
            repeat' (first | refine zcp (by kernel_rfl) ?_ | refine zcm ?_ | refine zcn ?_ | (refine zap rfl ?_; first | ((with_reducible refine zcu ?_); refine zan rfl ?_) | ((with_reducible refine zda ?_); refine zau rfl rfl (by omega) ?_)) | refine zch ?_)
            refine run_take [0] rfl ?_
            exact cut_end ⟨rfl, j + 1, ⟨rfl, rfl, rfl, int_eq (by omega), trivial⟩, ⟨rfl, by omega, by rw [← g2]⟩, by omega⟩
      · repeat' (first | refine zck ?_ | refine zcp (by kernel_rfl) ?_ | (refine zap rfl ?_; first | ((with_reducible refine zda ?_); refine zbh rfl rfl (by omega) ?_)) | refine zch ?_ | refine zcj rfl ?_)
        refine cut_exit rfl rfl ?_
        repeat' (first | refine zck ?_ | refine zcp (by kernel_rfl) ?_ | (refine zap rfl ?_; first | ((with_reducible refine zcv ?_); refine zan rfl ?_)) | refine zch ?_)
        rw [List.drop_of_length_le (by omega)] at g2
        exact ret_tmp1 rfl ⟨by rw [← g2]; rfl, rfl⟩
end Go.Proofs.Ytpcnbaddkblbhaa

namespace Go.Proofs.Ytpcnbaddkblbhaa
open Go.Vc

theorem isNaN_spec (w0 : World) (x : Int) : FnE PP w0 [] 99 [.int .i64 x] [] (.bool false) [] := by
  refine fn_of_run en99 fn99 rfl rfl rfl ?_
  repeat' (first | refine zck ?_ | refine zcp (by kernel_rfl) ?_ | refine zcq PP_mixed (by kernel_rfl) (by kernel_rfl) ?_ | refine zcm ?_ | refine zcl ?_ | refine zcn ?_ | refine zco ?_ | refine zcs rfl ?_ | (refine zap rfl ?_; first | ((with_reducible refine zcu ?_); refine zan rfl ?_) | ((with_reducible refine zcv ?_); refine zan rfl ?_) | ((with_reducible refine zda ?_); first | refine zbp rfl rfl ?_ | refine zba rfl rfl ?_)) | refine zch ?_ | refine zci rfl ?_ | refine zcj rfl ?_)
  refine ret_tmp1 rfl ⟨(show Value.bool (decide (x ≠ x)) = _ from ?_), rfl⟩
  simp
theorem less_spec (w0 : World) (x y : Int) : FnE PP w0 [] 85 [.int .i64 x, .int .i64 y] [] (.bool (Go.Sort.ltInt x y)) [] := by
  refine fn_of_run en85 fn85 rfl rfl rfl ?_
  repeat' (first | refine zck ?_ | refine zcp (by kernel_rfl) ?_ | refine zcq PP_mixed (by kernel_rfl) (by kernel_rfl) ?_ | refine zcm ?_ | refine zcl ?_ | refine zcn ?_ | refine zco ?_ | refine zcs rfl ?_ | (refine zap rfl ?_; first | ((with_reducible refine zct ?_); first | refine zaj rfl ?_ | refine zak rfl ?_ | refine zal rfl ?_ | refine zam rfl rfl (fun _ => ?_) (fun _ => ?_)) | ((with_reducible refine zcu ?_); refine zan rfl ?_) | ((with_reducible refine zcv ?_); refine zan rfl ?_) | ((with_reducible refine zcx ?_); refine zah [] (isNaN_spec w0 _) rfl rfl rfl sub_nil rfl ?_) | ((with_reducible refine zda ?_); refine zbq rfl rfl ?_) | ((with_reducible refine zdb ?_); first | refine zby rfl ?_ | refine zbx rfl ?_) | ((with_reducible refine zdc ?_); first | refine zbu rfl ?_ | refine zbv rfl ?_ | refine zbw rfl rfl rfl ?_)) | refine zch ?_ | refine zci rfl ?_ | refine zcj rfl ?_)
  refine ret_tmp1 rfl ⟨?_, rfl⟩
  rfl
end Go.Proofs.Ytpcnbaddkblbhaa

namespace Go.Proofs.Ytpcnbaddkblbhaa
open Go.Vc
open Go.Sort (ltInt swp insInner insOuter insertionSort)

theorem ins_step {a j : Nat} {d : Array Int} (h : a < j + 1) (hl : ltInt d[j + 1]! d[j]! = true) : insInner ltInt a (j + 1) d = insInner ltInt a j (swp d (j + 1) j) := by
  rw [insInner]; simp [h, hl]
theorem ins_stop {a j : Nat} {d : Array Int} (hl : ltInt d[j + 1]! d[j]! = false) : insInner ltInt a (j + 1) d = d := by
  rw [insInner]; simp [hl]
theorem ins_end {a j : Nat} {d : Array Int} (h : j ≤ a) : insInner ltInt a j d = d := by
  cases j with
  | zero => rfl
  | succ j => rw [insInner]; simp; omega
theorem insOuter_lt {a b i : Nat} {d : Array Int} (h : i < b) : insOuter ltInt a b i d = insOuter ltInt a b (i + 1) (insInner ltInt a i d) := by
  rw [insOuter, if_pos h]
theorem insOuter_ge {a b i : Nat} {d : Array Int} (h : b ≤ i) : insOuter ltInt a b i d = d := by
  rw [insOuter, if_neg (by omega)]
theorem ins_spec (w0 : World) (bb N cap : Nat) (D : Array Int) (a b : Nat) (hN : N ≤ 4611686018427387903) (hab : a ≤ b) (hb : b ≤ N) (hD : D.size = N) :
    FnE PP w0 [] 79 [.slice (some ⟨bb, 0, none⟩) N cap, .int .i64 a, .int .i64 b] [Dat 27 bb N cap D] (.tuple #[]) [Dat 27 bb N cap (insertionSort ltInt D a b)] := by
  refine fn_of_run en79 fn79 rfl rfl rfl ?_
  repeat' (first | refine zck ?_ | refine zcp (by kernel_rfl) ?_ | refine zcl ?_ | (refine zap rfl ?_; first | ((with_reducible refine zcu ?_); refine zan rfl ?_) | ((with_reducible refine zcv ?_); refine zan rfl ?_) | ((with_reducible refine zda ?_); refine zau rfl rfl (by omega) ?_)) | refine zch ?_)
  refine run_loop (S := Nat × Array Int) (fun s => [(0, .slice (some ⟨bb, 0, none⟩) N cap), (1, .int .i64 a), (2, .int .i64 b), (6, .int .i64 s.1)])
    (fun s Γ => Γ = [Dat 27 bb N cap s.2] ∧ a < s.1 ∧ s.1 ≤ b + 1 ∧ s.2.size = N ∧ insOuter ltInt a b s.1 s.2 = insertionSort ltInt D a b)
    (fun s => b + 1 - s.1) (a + 1, D) ⟨rfl, rfl, rfl, rfl, trivial⟩ ⟨rfl, by omega, by omega, hD, rfl⟩ ?_
  rintro ⟨i, d⟩ Γ junk ⟨rfl, h1, h2, h3, h4⟩
  dsimp only at h1 h2 h3 h4 ⊢
  by_cases hi : i < b
  · repeat' (first | refine zck ?_ | refine zcp (by kernel_rfl) ?_ | refine zcm ?_ | refine zcl ?_ | (refine zap rfl ?_; first | ((with_reducible refine zcu ?_); refine zan rfl ?_) | ((with_reducible refine zcv ?_); refine zan rfl ?_) | ((with_reducible refine zda ?_); refine zbg rfl rfl (by omega) ?_)) | refine zch ?_ | refine zci rfl ?_)
    refine run_loop (S := Nat × Array Int) (fun s => [(0, .slice (some ⟨bb, 0, none⟩) N cap), (1, .int .i64 a), (2, .int .i64 b), (6, .int .i64 i), (7, .int .i64 s.1)])
      (fun s Γ => Γ = [Dat 27 bb N cap s.2] ∧ a ≤ s.1 ∧ s.1 ≤ i ∧ s.2.size = N ∧ insInner ltInt a s.1 s.2 = insInner ltInt a i d)
      (fun s => s.1) (i, d) ⟨rfl, rfl, rfl, rfl, rfl, trivial⟩ ⟨rfl, by omega, by omega, h3, rfl⟩ ?_
    rintro ⟨j, e⟩ Γ junk ⟨rfl, g1, g2, g3, g4⟩
    dsimp only at g1 g2 g3 g4 ⊢
    by_cases hj : a < j
    · obtain ⟨j, rfl⟩ : ∃ m, j = m + 1 := ⟨j - 1, by omega⟩
      repeat' (first | refine zck ?_ | refine run_drawR PP_mixed (by kernel_rfl) (by kernel_rfl) ?_ | (refine zap rfl ?_; first | refine reg_load_d 0 rfl rfl (by omega) ?_ | ((with_reducible refine zct ?_); refine zaj rfl ?_) | ((with_reducible refine zcu ?_); refine zan rfl ?_) | ((with_reducible refine zcx ?_); refine zah [] (less_spec w0 _ _) rfl rfl rfl sub_nil rfl ?_) | ((with_reducible refine zda ?_); first | refine zbk rfl rfl (by omega) ?_ | refine zav rfl rfl (by omega) ?_) | ((with_reducible refine zdc ?_); refine zbu rfl ?_) | ((with_reducible refine zdf ?_); refine zas rfl rfl (by omega) ?_)) | refine zch ?_)
      have e1 : ((j + 1 : Nat) : Int).toNat = j + 1 := by omega
      have e2 : (((j + 1 : Nat) : Int) - 1).toNat = j := by omega
      refine run_cond rfl (fun hE => ?_) (fun hE => ?_)
      · repeat' (first | refine zck ?_ | refine zcp (by kernel_rfl) ?_ | refine run_drawR PP_mixed (by kernel_rfl) (by kernel_rfl) ?_ | refine zcm ?_ | refine zcl ?_ | refine zcn ?_ | (refine zap rfl ?_; first | refine reg_load_d 0 rfl rfl (by omega) ?_ | refine reg_store_d 0 rfl rfl rfl (by omega) rfl ?_ | ((with_reducible refine zcu ?_); refine zan rfl ?_) | ((with_reducible refine zcv ?_); refine zan rfl ?_) | ((with_reducible refine zda ?_); refine zav rfl rfl (by omega) ?_) | ((with_reducible refine zdf ?_); refine zas rfl rfl (by omega) ?_)) | refine zch ?_)
        rw [e1, e2] at hE
        refine cut_end ⟨rfl, (j, swp e (j + 1) j), ⟨rfl, rfl, rfl, rfl, int_eq (by omega), trivial⟩, ⟨?_, by omega, by omega, ?_, ?_⟩, by omega⟩
        · rw [e1, e2]; rfl
        · rw [Go.Sort.size_swp]; exact g3
        · rw [← g4, ins_step hj (decide_eq_true hE)]
      · rw [e1, e2] at hE
        refine cut_exit rfl rfl ?_
        repeat' (first | refine zcp (by kernel_rfl) ?_ | refine zcn ?_ | (refine zap rfl ?_; first | ((with_reducible refine zcu ?_); refine zan rfl ?_) | ((with_reducible refine zcv ?_); refine zan rfl ?_) | ((with_reducible refine zda ?_); refine zau rfl rfl (by omega) ?_)) | refine zch ?_)
        refine cut_end ⟨rfl, (i + 1, e), ⟨rfl, rfl, rfl, int_eq (by omega), trivial⟩, ⟨rfl, by omega, by omega, g3, ?_⟩, by omega⟩
        rw [ins_stop (decide_eq_false hE)] at g4
        rw [← h4, insOuter_lt hi, ← g4]
    · repeat' (first | refine zck ?_ | refine run_drawR PP_mixed (by kernel_rfl) (by kernel_rfl) ?_ | (refine zap rfl ?_; first | ((with_reducible refine zct ?_); refine zak rfl ?_) | ((with_reducible refine zcu ?_); refine zan rfl ?_) | ((with_reducible refine zda ?_); refine zbl rfl rfl (by omega) ?_) | ((with_reducible refine zdc ?_); refine zbv rfl ?_)) | refine zch ?_ | refine zcj rfl ?_)
      refine cut_exit rfl rfl ?_
      repeat' (first | refine zcp (by kernel_rfl) ?_ | refine zcn ?_ | (refine zap rfl ?_; first | ((with_reducible refine zcu ?_); refine zan rfl ?_) | ((with_reducible refine zcv ?_); refine zan rfl ?_) | ((with_reducible refine zda ?_); refine zau rfl rfl (by omega) ?_)) | refine zch ?_)
      refine cut_end ⟨rfl, (i + 1, e), ⟨rfl, rfl, rfl, int_eq (by omega), trivial⟩, ⟨rfl, by omega, by omega, g3, ?_⟩, by omega⟩
      rw [ins_end (by omega)] at g4
      rw [← h4, insOuter_lt hi, ← g4]
  · repeat' (first | refine zck ?_ | refine zcp (by kernel_rfl) ?_ | (refine zap rfl ?_; first | ((with_reducible refine zcu ?_); refine zan rfl ?_) | ((with_reducible refine zda ?_); refine zbh rfl rfl (by omega) ?_)) | refine zch ?_ | refine zcj rfl ?_)
    refine cut_exit rfl rfl ?_
    repeat' (first | refine zck ?_ | (refine zap rfl ?_; first | ((with_reducible refine zct ?_); first | refine zaj rfl ?_ | refine zak rfl ?_ | refine zal rfl ?_ | refine zam rfl rfl (fun _ => ?_) (fun _ => ?_))) | refine zch ?_)
    refine end_tmp0 rfl ⟨rfl, ?_⟩
    rw [← h4, insOuter_ge (by omega)]
end Go.Proofs.Ytpcnbaddkblbhaa

namespace Go.Proofs.Ytpcnbaddkblbhaa
open Go.Vc
open Go.Sort (ltInt swp reverseLoop reverseRange siftDown heapBuild heapPop heapSort)

theorem revl_lt {i j : Nat} {d : Array Int} (h : i < j) : reverseLoop i j d = reverseLoop (i + 1) (j - 1) (swp d i j) := by
  rw [reverseLoop, if_pos h]
theorem revl_ge {i j : Nat} {d : Array Int} (h : j ≤ i) : reverseLoop i j d = d := by
  rw [reverseLoop, if_neg (by omega)]
theorem rev_spec (w0 : World) (bb N cap : Nat) (D : Array Int) (a b : Nat) (hN : N ≤ 4611686018427387903) (hab : a < b) (hb : b ≤ N) (hD : D.size = N) :
    FnE PP w0 [] 83 [.slice (some ⟨bb, 0, none⟩) N cap, .int .i64 a, .int .i64 b] [Dat 27 bb N cap D] (.tuple #[]) [Dat 27 bb N cap (reverseRange D a b)] := by
  refine fn_of_run en83 fn83 rfl rfl rfl ?_
  repeat' (first | refine zck ?_ | refine zcp (by kernel_rfl) ?_ | refine zcl ?_ | (refine zap rfl ?_; first | ((with_reducible refine zcu ?_); refine zan rfl ?_) | ((with_reducible refine zcv ?_); refine zan rfl ?_) | ((with_reducible refine zda ?_); refine zav rfl rfl (by omega) ?_)) | refine zch ?_)
  refine run_loop (S := Nat × Nat × Array Int) (fun s => [(0, .slice (some ⟨bb, 0, none⟩) N cap), (6, .int .i64 s.1), (7, .int .i64 s.2.1)])
    (fun s Γ => Γ = [Dat 27 bb N cap s.2.2] ∧ s.1 ≤ s.2.1 + 1 ∧ s.2.1 < b ∧ s.2.2.size = N ∧ reverseLoop s.1 s.2.1 s.2.2 = reverseRange D a b)
    (fun s => s.2.1 + 1 - s.1) (a, b - 1, D) ⟨rfl, rfl, int_eq (by dsimp only; omega), trivial⟩ ⟨rfl, by dsimp only; omega, by dsimp only; omega, hD, rfl⟩ ?_
  rintro ⟨i, j, d⟩ Γ junk ⟨rfl, h1, h2, h3, h4⟩
  dsimp only at h1 h2 h3 h4 ⊢
  by_cases hi : i < j
  · repeat' (first | refine zck ?_ | refine zcp (by kernel_rfl) ?_ | refine run_drawR PP_mixed (by kernel_rfl) (by kernel_rfl) ?_ | refine zcm ?_ | refine zcl ?_ | refine zcn ?_ | (refine zap rfl ?_; first | refine reg_load_d 0 rfl rfl (by omega) ?_ | refine reg_store_d 0 rfl rfl rfl (by omega) rfl ?_ | ((with_reducible refine zcu ?_); refine zan rfl ?_) | ((with_reducible refine zcv ?_); refine zan rfl ?_) | ((with_reducible refine zda ?_); first | refine zbg rfl rfl (by omega) ?_ | refine zau rfl rfl (by omega) ?_ | refine zav rfl rfl (by omega) ?_) | ((with_reducible refine zdf ?_); refine zas rfl rfl (by omega) ?_)) | refine zch ?_ | refine zci rfl ?_)
    have e1 : ((i : Nat) : Int).toNat = i := by omega
    have e2 : ((j : Nat) : Int).toNat = j := by omega
    refine cut_end ⟨rfl, (i + 1, j - 1, swp d i j), ⟨rfl, int_eq (by dsimp only; omega), int_eq (by dsimp only; omega), trivial⟩, ⟨?_, by dsimp only; omega, by dsimp only; omega, ?_, ?_⟩, by dsimp only; omega⟩
    · rw [e1, e2]; rfl
    · rw [Go.Sort.size_swp]; exact h3
    · rw [← h4, revl_lt hi]
  · repeat' (first | refine zck ?_ | refine zcp (by kernel_rfl) ?_ | (refine zap rfl ?_; first | ((with_reducible refine zcu ?_); refine zan rfl ?_) | ((with_reducible refine zda ?_); refine zbh rfl rfl (by omega) ?_)) | refine zch ?_ | refine zcj rfl ?_)
    refine cut_exit rfl rfl ?_
    repeat' (first | refine zck ?_ | (refine zap rfl ?_; first | ((with_reducible refine zcu ?_); refine zan rfl ?_)) | refine zch ?_)
    refine end_tmp0 rfl ⟨rfl, ?_⟩
    rw [← h4, revl_ge (by omega)]

theorem sift_ge {hi first root : Nat} {d : Array Int} (h : hi ≤ 2 * root + 1) : siftDown ltInt hi first root d = d := by
  rw [siftDown, dif_pos h]
/-- The greater child. -/
def gch (hi first root : Nat) (d : Array Int) : Nat := if 2 * root + 1 + 1 < hi && ltInt d[first + (2 * root + 1)]! d[first + (2 * root + 1) + 1]! then 2 * root + 2 else 2 * root + 1
theorem gch_lt {hi first root : Nat} {d : Array Int} (h : 2 * root + 1 < hi) : gch hi first root d < hi ∧ root < gch hi first root d := by
  unfold gch
  split
  · rename_i hc; simp at hc; omega
  · omega
theorem sift_stop {hi first root : Nat} {d : Array Int} (h : 2 * root + 1 < hi) (hl : ltInt d[first + root]! d[first + gch hi first root d]! = false) : siftDown ltInt hi first root d = d := by
  rw [siftDown, dif_neg (by omega)]
  unfold gch at hl
  split
  · rename_i hc; rw [if_pos hc] at hl; simp [hl]
  · rename_i hc; rw [if_neg hc] at hl; simp [hl]
theorem sift_go {hi first root : Nat} {d : Array Int} (h : 2 * root + 1 < hi) (hl : ltInt d[first + root]! d[first + gch hi first root d]! = true) :
    siftDown ltInt hi first root d = siftDown ltInt hi first (gch hi first root d) (swp d (first + root) (first + gch hi first root d)) := by
  rw [siftDown, dif_neg (by omega)]
  unfold gch at hl ⊢
  split
  · rename_i hc; rw [if_pos hc] at hl; simp only [hl, Bool.not_true, Bool.false_eq_true, if_false]; rw [dif_pos (by simp at hc; omega)]
  · rename_i hc; rw [if_neg hc] at hl; simp only [hl, Bool.not_true, Bool.false_eq_true, if_false]
set_option maxHeartbeats 2000000 in
theorem sift_spec (w0 : World) (bb N cap : Nat) (D : Array Int) (lo hi first : Nat) (hN : N ≤ 1152921504606846975) (hf : first + hi ≤ N) (hlo : lo ≤ hi) (hD : D.size = N) :
    FnE PP w0 [] 94 [.slice (some ⟨bb, 0, none⟩) N cap, .int .i64 lo, .int .i64 hi, .int .i64 first] [Dat 27 bb N cap D] (.tuple #[]) [Dat 27 bb N cap (siftDown ltInt hi first lo D)] := by
  refine fn_of_run en94 fn94 rfl rfl rfl ?_
  repeat' (first | refine zck ?_ | refine zcp (by kernel_rfl) ?_ | refine zcl ?_ | (refine zap rfl ?_; first | ((with_reducible refine zcu ?_); refine zan rfl ?_) | ((with_reducible refine zcv ?_); refine zan rfl ?_)) | refine zch ?_)
  refine run_loop (S := Nat × Array Int) (fun s => [(0, .slice (some ⟨bb, 0, none⟩) N cap), (2, .int .i64 hi), (3, .int .i64 first), (8, .int .i64 s.1)])
    (fun s Γ => Γ = [Dat 27 bb N cap s.2] ∧ s.1 ≤ hi ∧ s.2.size = N ∧ siftDown ltInt hi first s.1 s.2 = siftDown ltInt hi first lo D)
    (fun s => hi - s.1) (lo, D) ⟨rfl, rfl, rfl, rfl, trivial⟩ ⟨rfl, by omega, hD, rfl⟩ ?_
  rintro ⟨r, d⟩ Γ junk ⟨rfl, h1, h3, h4⟩
  dsimp only at h1 h3 h4 ⊢
  by_cases hi2 : 2 * r + 1 < hi
  · have e3 : ((first : Int) + (2 * (r : Int) + 1)).toNat = first + (2 * r + 1) := by omega
    have e4 : ((first : Int) + (2 * (r : Int) + 1) + 1).toNat = first + (2 * r + 1) + 1 := by omega
    by_cases hc : 2 * r + 2 < hi
    · repeat' (first | refine zck ?_ | refine zcp (by kernel_rfl) ?_ | refine run_drawR PP_mixed (by kernel_rfl) (by kernel_rfl) ?_ | refine zcm ?_ | refine zcl ?_ | (refine zap rfl ?_; first | refine reg_load_d 0 rfl rfl (by omega) ?_ | ((with_reducible refine zct ?_); refine zaj rfl ?_) | ((with_reducible refine zcu ?_); refine zan rfl ?_) | ((with_reducible refine zcv ?_); refine zan rfl ?_) | ((with_reducible refine zcx ?_); refine zah [] (less_spec w0 _ _) rfl rfl rfl sub_nil rfl ?_) | ((with_reducible refine zda ?_); first | refine zbg rfl rfl (by omega) ?_ | refine zbn rfl rfl (by omega) ?_ | refine zau rfl rfl (by omega) ?_ | refine zaw rfl rfl (by omega) ?_) | ((with_reducible refine zdc ?_); refine zbu rfl ?_) | ((with_reducible refine zdf ?_); refine zas rfl rfl (by omega) ?_)) | refine zch ?_ | refine zcj rfl ?_)
      refine run_cond rfl (fun hE => ?_) (fun hE => ?_)
      · have hg : gch hi first r d = 2 * r + 2 := by
          unfold gch; rw [if_pos]
          rw [e3, e4] at hE
          simp only [Bool.and_eq_true, decide_eq_true_eq]; exact ⟨by omega, decide_eq_true hE⟩
        have e1 : ((first : Int) + (r : Int)).toNat = first + r := by omega
        have e2 : ((first : Int) + (2 * (r : Int) + 1 + 1)).toNat = first + (2 * r + 2) := by omega
        repeat' (first | refine zck ?_ | refine zcp (by kernel_rfl) ?_ | refine run_drawR PP_mixed (by kernel_rfl) (by kernel_rfl) ?_ | (refine zap rfl ?_; first | refine reg_load_d 0 rfl rfl (by omega) ?_ | ((with_reducible refine zcu ?_); refine zan rfl ?_) | ((with_reducible refine zcv ?_); refine zan rfl ?_) | ((with_reducible refine zcx ?_); refine zah [] (less_spec w0 _ _) rfl rfl rfl sub_nil rfl ?_) | ((with_reducible refine zda ?_); refine zau rfl rfl (by omega) ?_) | ((with_reducible refine zdb ?_); refine zby rfl ?_) | ((with_reducible refine zdf ?_); refine zas rfl rfl (by omega) ?_)) | refine zch ?_)
        refine run_cond rfl (fun hE2 => ?_) (fun hE2 => ?_)
        · rw [e1, e2] at hE2
          refine qret0 (fun _ _ h => h) rfl ⟨rfl, (show [_] = [_] from ?_)⟩
          rw [← h4, sift_stop hi2 (by rw [hg]; exact decide_eq_false (by simpa using hE2))]
        · rw [e1, e2] at hE2
          repeat' (first | refine zck ?_ | refine zcp (by kernel_rfl) ?_ | refine run_drawR PP_mixed (by kernel_rfl) (by kernel_rfl) ?_ | refine zcm ?_ | refine zcn ?_ | (refine zap rfl ?_; first | refine reg_load_d 0 rfl rfl (by omega) ?_ | refine reg_store_d 0 rfl rfl rfl (by omega) rfl ?_ | ((with_reducible refine zcu ?_); refine zan rfl ?_) | ((with_reducible refine zcv ?_); refine zan rfl ?_) | ((with_reducible refine zda ?_); refine zau rfl rfl (by omega) ?_) | ((with_reducible refine zdf ?_); refine zas rfl rfl (by omega) ?_)) | refine zch ?_)
          refine cut_end ⟨rfl, (2 * r + 2, swp d (first + r) (first + (2 * r + 2))), ⟨rfl, rfl, rfl, int_eq (by dsimp only; omega), trivial⟩, ⟨?_, by dsimp only; omega, ?_, ?_⟩, by dsimp only; omega⟩
          · rw [e1, e2]; rfl
          · rw [Go.Sort.size_swp]; exact h3
          · rw [← h4, sift_go hi2 (by rw [hg]; exact decide_eq_true (by simpa using hE2)), hg]
      · have hg : gch hi first r d = 2 * r + 1 := by
          unfold gch; rw [if_neg]
          rw [e3, e4] at hE
          simp only [Bool.and_eq_true, decide_eq_true_eq, not_and]; intro _ h; exact hE (of_decide_eq_true h)
        have e1 : ((first : Int) + (r : Int)).toNat = first + r := by omega
        have e2 : ((first : Int) + (2 * (r : Int) + 1)).toNat = first + (2 * r + 1) := by omega
        repeat' (first | refine zck ?_ | refine run_drawR PP_mixed (by kernel_rfl) (by kernel_rfl) ?_ | refine zcm ?_ | (refine zap rfl ?_; first | refine reg_load_d 0 rfl rfl (by omega) ?_ | ((with_reducible refine zcu ?_); refine zan rfl ?_) | ((with_reducible refine zcx ?_); refine zah [] (less_spec w0 _ _) rfl rfl rfl sub_nil rfl ?_) | ((with_reducible refine zda ?_); refine zau rfl rfl (by omega) ?_) | ((with_reducible refine zdb ?_); refine zby rfl ?_) | ((with_reducible refine zdf ?_); refine zas rfl rfl (by omega) ?_)) | refine zch ?_)
        refine run_cond rfl (fun hE2 => ?_) (fun hE2 => ?_)
        · rw [e1, e2] at hE2
          refine qret0 (fun _ _ h => h) rfl ⟨rfl, (show [_] = [_] from ?_)⟩
          rw [← h4, sift_stop hi2 (by rw [hg]; exact decide_eq_false (by simpa using hE2))]
        · rw [e1, e2] at hE2
          repeat' (first | refine zck ?_ | refine zcp (by kernel_rfl) ?_ | refine run_drawR PP_mixed (by kernel_rfl) (by kernel_rfl) ?_ | refine zcm ?_ | refine zcn ?_ | (refine zap rfl ?_; first | refine reg_load_d 0 rfl rfl (by omega) ?_ | refine reg_store_d 0 rfl rfl rfl (by omega) rfl ?_ | ((with_reducible refine zcu ?_); refine zan rfl ?_) | ((with_reducible refine zcv ?_); refine zan rfl ?_) | ((with_reducible refine zda ?_); refine zau rfl rfl (by omega) ?_) | ((with_reducible refine zdf ?_); refine zas rfl rfl (by omega) ?_)) | refine zch ?_)
          refine cut_end ⟨rfl, (2 * r + 1, swp d (first + r) (first + (2 * r + 1))), ⟨rfl, rfl, rfl, int_eq (by dsimp only; omega), trivial⟩, ⟨?_, by dsimp only; omega, ?_, ?_⟩, by dsimp only; omega⟩
          · rw [e1, e2]; rfl
          · rw [Go.Sort.size_swp]; exact h3
          · rw [← h4, sift_go hi2 (by rw [hg]; exact decide_eq_true (by simpa using hE2)), hg]
    · have hg : gch hi first r d = 2 * r + 1 := by
        unfold gch; rw [if_neg]
        simp only [Bool.and_eq_true, decide_eq_true_eq, not_and]; intro h; omega
      have e1 : ((first : Int) + (r : Int)).toNat = first + r := by omega
      have e2 : ((first : Int) + (2 * (r : Int) + 1)).toNat = first + (2 * r + 1) := by omega
      repeat' (first | refine zck ?_ | refine zcp (by kernel_rfl) ?_ | refine run_drawR PP_mixed (by kernel_rfl) (by kernel_rfl) ?_ | refine zcm ?_ | refine zcl ?_ | (refine zap rfl ?_; first | refine reg_load_d 0 rfl rfl (by omega) ?_ | ((with_reducible refine zct ?_); refine zak rfl ?_) | ((with_reducible refine zcu ?_); refine zan rfl ?_) | ((with_reducible refine zcv ?_); refine zan rfl ?_) | ((with_reducible refine zcx ?_); refine zah [] (less_spec w0 _ _) rfl rfl rfl sub_nil rfl ?_) | ((with_reducible refine zda ?_); first | refine zbh rfl rfl (by omega) ?_ | refine zbn rfl rfl (by omega) ?_ | refine zau rfl rfl (by omega) ?_ | refine zaw rfl rfl (by omega) ?_) | ((with_reducible refine zdb ?_); refine zby rfl ?_) | ((with_reducible refine zdc ?_); refine zbv rfl ?_) | ((with_reducible refine zdf ?_); refine zas rfl rfl (by omega) ?_)) | refine zch ?_ | refine zcj rfl ?_)
      refine run_cond rfl (fun hE2 => ?_) (fun hE2 => ?_)
      · rw [e1, e2] at hE2
        refine qret0 (fun _ _ h => h) rfl ⟨rfl, (show [_] = [_] from ?_)⟩
        rw [← h4, sift_stop hi2 (by rw [hg]; exact decide_eq_false (by simpa using hE2))]
      · rw [e1, e2] at hE2
        repeat' (first | refine zck ?_ | refine zcp (by kernel_rfl) ?_ | refine run_drawR PP_mixed (by kernel_rfl) (by kernel_rfl) ?_ | refine zcm ?_ | refine zcn ?_ | (refine zap rfl ?_; first | refine reg_load_d 0 rfl rfl (by omega) ?_ | refine reg_store_d 0 rfl rfl rfl (by omega) rfl ?_ | ((with_reducible refine zcu ?_); refine zan rfl ?_) | ((with_reducible refine zcv ?_); refine zan rfl ?_) | ((with_reducible refine zda ?_); refine zau rfl rfl (by omega) ?_) | ((with_reducible refine zdf ?_); refine zas rfl rfl (by omega) ?_)) | refine zch ?_)
        refine cut_end ⟨rfl, (2 * r + 1, swp d (first + r) (first + (2 * r + 1))), ⟨rfl, rfl, rfl, int_eq (by dsimp only; omega), trivial⟩, ⟨?_, by dsimp only; omega, ?_, ?_⟩, by dsimp only; omega⟩
        · rw [e1, e2]; rfl
        · rw [Go.Sort.size_swp]; exact h3
        · rw [← h4, sift_go hi2 (by rw [hg]; exact decide_eq_true (by simpa using hE2)), hg]
  · repeat' (first | refine zck ?_ | refine zcp (by kernel_rfl) ?_ | refine zcl ?_ | (refine zap rfl ?_; first | ((with_reducible refine zcu ?_); refine zan rfl ?_) | ((with_reducible refine zcv ?_); refine zan rfl ?_) | ((with_reducible refine zda ?_); first | refine zbm rfl rfl (by omega) ?_ | refine zau rfl rfl (by omega) ?_ | refine zaw rfl rfl (by omega) ?_)) | refine zch ?_ | refine zci rfl ?_)
    refine cut_exit rfl rfl ?_
    repeat' (first | refine zck ?_ | (refine zap rfl ?_; first | ((with_reducible refine zct ?_); first | refine zaj rfl ?_ | refine zak rfl ?_ | refine zal rfl ?_ | refine zam rfl rfl (fun _ => ?_) (fun _ => ?_))) | refine zch ?_)
    refine end_tmp0 rfl ⟨rfl, ?_⟩
    rw [← h4, sift_ge (by omega)]
theorem sift_specZ (w0 : World) (bb N cap : Nat) (D : Array Int) (zl zh zf : Int) (lo hi first : Nat) (hN : N ≤ 1152921504606846975) (hf : first + hi ≤ N) (hlo : lo ≤ hi) (hD : D.size = N) (e1 : zl = lo) (e2 : zh = hi) (e3 : zf = first) :
    FnE PP w0 [] 94 [.slice (some ⟨bb, 0, none⟩) N cap, .int .i64 zl, .int .i64 zh, .int .i64 zf] [Dat 27 bb N cap D] (.tuple #[]) [Dat 27 bb N cap (siftDown ltInt hi first lo D)] := by
  subst e1; subst e2; subst e3; exact sift_spec w0 bb N cap D lo hi first hN hf hlo hD
end Go.Proofs.Ytpcnbaddkblbhaa

namespace Go.Proofs.Ytpcnbaddkblbhaa
open Go.Vc
open Go.Sort (ltInt swp siftDown heapBuild heapPop heapSort)
theorem size_sift (hi first : Nat) : ∀ (m root : Nat) (d : Array Int), hi - root ≤ m → (siftDown ltInt hi first root d).size = d.size := by
  intro m
  induction m with
  | zero => intro root d h; rw [sift_ge (by omega)]
  | succ m ih =>
    intro root d h
    by_cases h1 : 2 * root + 1 < hi
    · have h2 := gch_lt (first := first) (d := d) h1
      cases hl : ltInt d[first + root]! d[first + gch hi first root d]! with
      | false => rw [sift_stop h1 hl]
      | true => rw [sift_go h1 hl, ih _ _ (by omega), Go.Sort.size_swp]
    · rw [sift_ge (by omega)]
theorem heap_spec (w0 : World) (bb N cap : Nat) (D : Array Int) (a b : Nat) (hN : N ≤ 1152921504606846975) (hab : a < b) (hb : b ≤ N) (hD : D.size = N) :
    FnE PP w0 [] 80 [.slice (some ⟨bb, 0, none⟩) N cap, .int .i64 a, .int .i64 b] [Dat 27 bb N cap D] (.tuple #[]) [Dat 27 bb N cap (heapSort ltInt D a b)] := by
  refine fn_of_run en80 fn80 rfl rfl rfl ?_
  repeat' (first | refine zck ?_ | refine zcp (by kernel_rfl) ?_ | refine zcl ?_ | (refine zap rfl ?_; first | ((with_reducible refine zcu ?_); refine zan rfl ?_) | ((with_reducible refine zcv ?_); refine zan rfl ?_) | ((with_reducible refine zda ?_); first | refine zav rfl rfl (by omega) ?_ | refine zax rfl rfl (by omega) ?_)) | refine zch ?_)
  refine run_loop (S := Nat × Array Int) (fun s => [(0, .slice (some ⟨bb, 0, none⟩) N cap), (6, .int .i64 a), (7, .int .i64 0), (8, .int .i64 (b - a)), (9, .int .i64 ((s.1 : Int) - 1))])
    (fun s Γ => Γ = [Dat 27 bb N cap s.2] ∧ s.1 ≤ b - a ∧ s.2.size = N ∧ heapBuild ltInt (b - a) a s.1 s.2 = heapBuild ltInt (b - a) a ((b - a - 1) / 2 + 1) D)
    (fun s => s.1) ((b - a - 1) / 2 + 1, D) ⟨rfl, rfl, rfl, rfl, int_eq (by dsimp only; omega), trivial⟩ ⟨rfl, by dsimp only; omega, hD, rfl⟩ ?_
  rintro ⟨i, d⟩ Γ junk ⟨rfl, h1, h3, h4⟩
  dsimp only at h1 h3 h4 ⊢
  by_cases hi : 0 < i
  · obtain ⟨i, rfl⟩ : ∃ m, i = m + 1 := ⟨i - 1, by omega⟩
    repeat' (first | refine zck ?_ | refine zcp (by kernel_rfl) ?_ | refine zcm ?_ | refine zcl ?_ | refine zcn ?_ | (refine zap rfl ?_; first | ((with_reducible refine zcu ?_); refine zan rfl ?_) | ((with_reducible refine zcv ?_); refine zan rfl ?_) | ((with_reducible refine zcx ?_); refine zah [0] (sift_specZ w0 bb N cap _ _ _ _ i (b - a) a hN (by omega) (by omega) h3 (by omega) (by omega) rfl) rfl rfl rfl sub_nil rfl ?_) | ((with_reducible refine zda ?_); first | refine zbm rfl rfl (by omega) ?_ | refine zav rfl rfl (by omega) ?_)) | refine zch ?_ | refine zci rfl ?_)
    refine cut_end ⟨rfl, (i, siftDown ltInt (b - a) a i d), ⟨rfl, rfl, rfl, rfl, int_eq (by dsimp only; omega), trivial⟩, ⟨rfl, by dsimp only; omega, ?_, ?_⟩, by dsimp only; omega⟩
    · rw [size_sift _ _ _ _ _ (Nat.le_refl _)]; exact h3
    · rw [← h4]; rfl
  · repeat' (first | refine zck ?_ | refine zcp (by kernel_rfl) ?_ | (refine zap rfl ?_; first | ((with_reducible refine zcu ?_); refine zan rfl ?_) | ((with_reducible refine zda ?_); refine zbn rfl rfl (by omega) ?_)) | refine zch ?_ | refine zcj rfl ?_)
    refine cut_exit rfl rfl ?_
    have hi0 : i = 0 := by omega
    subst hi0
    repeat' (first | refine zck ?_ | refine zcp (by kernel_rfl) ?_ | refine zcl ?_ | (refine zap rfl ?_; first | ((with_reducible refine zcu ?_); refine zan rfl ?_) | ((with_reducible refine zcv ?_); refine zan rfl ?_) | ((with_reducible refine zda ?_); refine zav rfl rfl (by omega) ?_)) | refine zch ?_)
    refine run_loop (S := Nat × Array Int) (fun s => [(0, .slice (some ⟨bb, 0, none⟩) N cap), (6, .int .i64 a), (7, .int .i64 0), (8, .int .i64 (b - a)), (10, .int .i64 ((s.1 : Int) - 1))])
      (fun s Γ => Γ = [Dat 27 bb N cap s.2] ∧ s.1 ≤ b - a ∧ s.2.size = N ∧ heapPop ltInt a s.1 s.2 = heapSort ltInt D a b)
      (fun s => s.1) (b - a, d) ⟨rfl, rfl, rfl, rfl, int_eq (by dsimp only; omega), trivial⟩ ⟨rfl, by dsimp only; omega, h3, by unfold heapSort; rw [← h4]; rfl⟩ ?_
    rintro ⟨i, d⟩ Γ junk ⟨rfl, g1, g3, g4⟩
    dsimp only at g1 g3 g4 ⊢
    by_cases hi : 0 < i
    · obtain ⟨i, rfl⟩ : ∃ m, i = m + 1 := ⟨i - 1, by omega⟩
      have e1 : ((a : Nat) : Int).toNat = a := by omega
      have e2 : ((a : Int) + (((i + 1 : Nat) : Int) - 1)).toNat = a + i := by omega
      have hs : (swp d (a : Int).toNat ((a : Int) + (((i + 1 : Nat) : Int) - 1)).toNat).size = N := by rw [Go.Sort.size_swp]; exact g3
      repeat' (first | refine zck ?_ | refine zcp (by kernel_rfl) ?_ | refine run_drawR PP_mixed (by kernel_rfl) (by kernel_rfl) ?_ | refine zcm ?_ | refine zcl ?_ | refine zcn ?_ | (refine zap rfl ?_; first | refine reg_load_d 0 rfl rfl (by omega) ?_ | refine reg_store_d 0 rfl rfl rfl (by omega) rfl ?_ | ((with_reducible refine zcu ?_); refine zan rfl ?_) | ((with_reducible refine zcv ?_); refine zan rfl ?_) | ((with_reducible refine zcx ?_); refine zah [0] (sift_specZ w0 bb N cap _ _ _ _ 0 i a hN (by omega) (by omega) hs (by omega) (by omega) rfl) rfl rfl rfl sub_nil rfl ?_) | ((with_reducible refine zda ?_); first | refine zbm rfl rfl (by omega) ?_ | refine zau rfl rfl (by omega) ?_ | refine zav rfl rfl (by omega) ?_) | ((with_reducible refine zdf ?_); refine zas rfl rfl (by omega) ?_)) | refine zch ?_ | refine zci rfl ?_)
      refine cut_end ⟨rfl, (i, siftDown ltInt i a 0 (swp d a (a + i))), ⟨rfl, rfl, rfl, rfl, int_eq (by dsimp only; omega), trivial⟩, ⟨?_, by dsimp only; omega, ?_, ?_⟩, by dsimp only; omega⟩
      · rw [e1, e2]; rfl
      · rw [size_sift _ _ _ _ _ (Nat.le_refl _), Go.Sort.size_swp]; exact g3
      · rw [← g4]; rfl
    · repeat' (first | refine zck ?_ | refine zcp (by kernel_rfl) ?_ | (refine zap rfl ?_; first | ((with_reducible refine zcu ?_); refine zan rfl ?_) | ((with_reducible refine zda ?_); refine zbn rfl rfl (by omega) ?_)) | refine zch ?_ | refine zcj rfl ?_)
      refine cut_exit rfl rfl ?_
      have hi0 : i = 0 := by omega
      subst hi0
      repeat' (first | refine zck ?_ | (refine zap rfl ?_; first | ((with_reducible refine zcu ?_); refine zan rfl ?_)) | refine zch ?_)
      refine end_tmp0 rfl ⟨rfl, (show [_] = [_] from ?_)⟩
      rw [← g4]; rfl
end Go.Proofs.Ytpcnbaddkblbhaa

namespace Go.Proofs.Ytpcnbaddkblbhaa
open Go.Vc
open Go.Sort (ltInt swp scanUp scanDown partLoop partition partEqLoop partitionEqual)
theorem up_go {p : Int → Bool} {d : Array Int} {j i : Nat} (h : i ≤ j) (hp : p d[i]! = true) : scanUp p d j i = scanUp p d j (i + 1) := by
  rw [scanUp, if_pos (by simp only [hp, Bool.and_true, decide_eq_true_eq]; exact h)]
theorem up_stop {p : Int → Bool} {d : Array Int} {j i : Nat} (h : i ≤ j → p d[i]! = false) : scanUp p d j i = i := by
  rw [scanUp, if_neg]
  simp only [Bool.and_eq_true, decide_eq_true_eq, not_and, Bool.not_eq_true]; exact h
theorem down_go {p : Int → Bool} {d : Array Int} {i j : Nat} (h : i ≤ j + 1) (hp : p d[j + 1]! = true) : scanDown p d i (j + 1) = scanDown p d i j := by
  rw [scanDown, if_pos (by simp only [hp, Bool.and_true, decide_eq_true_eq]; exact h)]
theorem down_stop {p : Int → Bool} {d : Array Int} {i j : Nat} (h : 0 < j → i ≤ j → p d[j]! = false) : scanDown p d i j = j := by
  cases j with
  | zero => rfl
  | succ j =>
    rw [scanDown, if_neg]
    simp only [Bool.and_eq_true, decide_eq_true_eq, not_and, Bool.not_eq_true]; exact h (Nat.succ_pos _)
theorem part_gt {D d : Array Int} {a b pivot i j : Nat} (hd : d = swp D a pivot) (hi : i = scanUp (fun x => ltInt x d[a]!) d (b - 1) (a + 1)) (hj : j = scanDown (fun x => !ltInt x d[a]!) d i (b - 1)) (h : i > j) : partition ltInt D a b pivot = (j, true, swp d j a) := by
  unfold partition
  simp only [← hd, ← hi, ← hj]
  rw [if_pos h]
theorem part_le {D d : Array Int} {a b pivot i j : Nat} (hd : d = swp D a pivot) (hi : i = scanUp (fun x => ltInt x d[a]!) d (b - 1) (a + 1)) (hj : j = scanDown (fun x => !ltInt x d[a]!) d i (b - 1)) (h : ¬ i > j) :
    partition ltInt D a b pivot = ((partLoop ltInt a (i + 1) (j - 1) (swp d i j)).1, false, swp (partLoop ltInt a (i + 1) (j - 1) (swp d i j)).2 (partLoop ltInt a (i + 1) (j - 1) (swp d i j)).1 a) := by
  unfold partition
  simp only [← hd, ← hi, ← hj]
  rw [if_neg h]
set_option maxHeartbeats 4000000
theorem part_spec (w0 : World) (bb N cap : Nat) (D : Array Int) (a b pivot : Nat) (hN : N ≤ 1152921504606846975) (hap : a ≤ pivot) (hpb : pivot < b) (hb : b ≤ N) (hD : D.size = N) :
    FnE PP w0 [] 87 [.slice (some ⟨bb, 0, none⟩) N cap, .int .i64 a, .int .i64 b, .int .i64 pivot] [Dat 27 bb N cap D]
      (.tuple #[.int .i64 ((partition ltInt D a b pivot).1 : Nat), .bool (partition ltInt D a b pivot).2.1]) [Dat 27 bb N cap (partition ltInt D a b pivot).2.2] := by
  refine fn_of_run en87 fn87 rfl rfl rfl ?_
  repeat (first | refine zck ?_ | refine zcl ?_ | refine zcm ?_ | refine zcn ?_)
  first | refine zcp (by kernel_rfl) ?_ | refine run_drawR PP_mixed (by kernel_rfl) (by kernel_rfl) ?_
  repeat' (refine zap rfl ?_; first | ((with_reducible refine zcv ?_); refine zan rfl ?_))
  all_goals refine zch ?_
  all_goals repeat (refine zck ?_)
  repeat (first | refine zck ?_ | refine zcl ?_ | refine zcm ?_ | refine zcn ?_)
  first | refine zcp (by kernel_rfl) ?_ | refine run_drawR PP_mixed (by kernel_rfl) (by kernel_rfl) ?_
  repeat' (refine zap rfl ?_; first | refine reg_load_d 0 rfl rfl (by omega) ?_ | refine reg_store_d 0 rfl rfl rfl (by omega) rfl ?_ | ((with_reducible refine zcu ?_); refine zan rfl ?_) | ((with_reducible refine zdf ?_); refine zas rfl rfl (by omega) ?_))
  all_goals refine zch ?_
  all_goals repeat (refine zck ?_)
  repeat (first | refine zck ?_ | refine zcl ?_ | refine zcm ?_ | refine zcn ?_)
  first | refine zcp (by kernel_rfl) ?_ | refine run_drawR PP_mixed (by kernel_rfl) (by kernel_rfl) ?_
  repeat' (refine zap rfl ?_; first | ((with_reducible refine zcu ?_); refine zan rfl ?_) | ((with_reducible refine zcv ?_); refine zan rfl ?_) | ((with_reducible refine zda ?_); first | refine zau rfl rfl (by omega) ?_ | refine zav rfl rfl (by omega) ?_))
  all_goals refine zch ?_
  all_goals repeat (refine zck ?_)
  obtain ⟨d, hd⟩ : ∃ d, d = swp D a pivot := ⟨_, rfl⟩
  have hds : d.size = N := by rw [hd, Go.Sort.size_swp]; exact hD
  obtain ⟨i, hi⟩ : ∃ i, i = scanUp (fun x => ltInt x d[a]!) d (b - 1) (a + 1) := ⟨_, rfl⟩
  obtain ⟨j, hj⟩ : ∃ j, j = scanDown (fun x => !ltInt x d[a]!) d i (b - 1) := ⟨_, rfl⟩
  have hi1 : a + 1 ≤ i := by rw [hi]; exact Go.Sort.scanUp_ge _ _ _ _
  have hi2 : i ≤ b - 1 + 1 := by rw [hi]; exact (Go.Sort.scanUp_spec _ d (b - 1) _ (a + 1) rfl).2.1 (by omega)
  have hj1 : j ≤ b - 1 := by rw [hj]; exact Go.Sort.scanDown_le _ _ _ _
  have hj2 : i ≤ j + 1 := by rw [hj]; exact (Go.Sort.scanDown_spec _ d i (b - 1)).2.1 hi2
  have hij : ¬ j < i → i < j := fun h => by
    rcases Nat.lt_or_ge i j with h1 | h1
    · exact h1
    · have e : j = i := by omega
      have p1 := (Go.Sort.scanUp_spec (fun x => ltInt x d[a]!) d (b - 1) _ (a + 1) rfl).2.2.2
      have p2 := (Go.Sort.scanDown_spec (fun x => !ltInt x d[a]!) d i (b - 1)).2.2.2
      rw [← hi] at p1; rw [← hj] at p2
      have p3 := p1 (by omega); have p4 := p2 (by omega) (by omega)
      rw [e] at p4; (try dsimp only at p3 p4); simp [p3] at p4
  refine run_bind_eq (l' := [(0, .slice (some ⟨bb, 0, none⟩) N cap), (1, .int .i64 a), (10, .int .i64 ((i : Nat) : Int)), (11, .int .i64 ((b - 1 : Nat) : Int))]) (Γ' := [Dat 27 bb N cap d]) ?_ (fun junk => ?_)
  · repeat' (first | refine zcl ?_ | (refine zap rfl ?_; first | ((with_reducible refine zct ?_); first | refine zaj rfl ?_ | refine zak rfl ?_ | refine zal rfl ?_ | refine zam rfl rfl (fun _ => ?_) (fun _ => ?_))) | refine zch ?_)
    refine run_loop (S := Nat) (fun u => [(0, .slice (some ⟨bb, 0, none⟩) N cap), (1, .int .i64 a), (10, .int .i64 ((u : Nat) : Int)), (11, .int .i64 ((b - 1 : Nat) : Int))]) (fun u Γ => Γ = [Dat 27 bb N cap d] ∧ a + 1 ≤ u ∧ u ≤ b - 1 + 1 ∧ scanUp (fun x => ltInt x d[a]!) d (b - 1) u = i) (fun u => b - 1 + 1 - u) (a + 1) ⟨rfl, rfl, int_eq (by first | rfl | omega | (dsimp only; omega)), int_eq (by first | rfl | omega | (dsimp only; omega)), trivial⟩ ⟨?_, by omega, by omega, hi.symm⟩ ?_
    · rw [hd]; rfl
    rintro u Γ junk ⟨rfl, h1, h2, h4⟩
    try dsimp only at h1 h2 h4 ⊢
    by_cases hc : u ≤ b - 1
    · repeat' (first | refine zck ?_ | refine run_drawR PP_mixed (by kernel_rfl) (by kernel_rfl) ?_ | (refine zap rfl ?_; first | refine reg_load_d 0 rfl rfl (by omega) ?_ | ((with_reducible refine zct ?_); refine zaj rfl ?_) | ((with_reducible refine zcu ?_); refine zan rfl ?_) | ((with_reducible refine zcx ?_); refine zah [] (less_spec w0 _ _) rfl rfl rfl sub_nil rfl ?_) | ((with_reducible refine zda ?_); refine zbi rfl rfl (by omega) ?_) | ((with_reducible refine zdc ?_); refine zbu rfl ?_) | ((with_reducible refine zdf ?_); refine zas rfl rfl (by omega) ?_)) | refine zch ?_)
      refine run_cond rfl (fun hE => ?_) (fun hE => ?_)
      · repeat' (first | refine zcp (by kernel_rfl) ?_ | refine zcm ?_ | refine zcl ?_ | refine zcn ?_ | (refine zap rfl ?_; first | ((with_reducible refine zcu ?_); refine zan rfl ?_) | ((with_reducible refine zcv ?_); refine zan rfl ?_) | ((with_reducible refine zda ?_); refine zau rfl rfl (by omega) ?_)) | refine zch ?_)
        refine cut_end ⟨rfl, u + 1, ⟨rfl, rfl, int_eq (by omega), rfl, trivial⟩, ⟨rfl, by omega, by omega, ?_⟩, by omega⟩
        rw [← h4, up_go hc (by simpa [ltInt] using hE)]
      · refine cut_exit rfl rfl ?_
        refine cut_end ⟨rfl, ⟨rfl, rfl, int_eq (congrArg Int.ofNat (by rw [← h4, up_stop (fun _ => by simpa [ltInt] using hE)])), rfl, trivial⟩, rfl⟩
    · repeat' (first | refine zck ?_ | refine run_drawR PP_mixed (by kernel_rfl) (by kernel_rfl) ?_ | (refine zap rfl ?_; first | ((with_reducible refine zct ?_); refine zak rfl ?_) | ((with_reducible refine zcu ?_); refine zan rfl ?_) | ((with_reducible refine zda ?_); refine zbj rfl rfl (by omega) ?_) | ((with_reducible refine zdc ?_); refine zbv rfl ?_)) | refine zch ?_ | refine zcj rfl ?_)
      refine cut_exit rfl rfl ?_
      refine cut_end ⟨rfl, ⟨rfl, rfl, int_eq (congrArg Int.ofNat (by rw [← h4, up_stop (fun h => absurd h hc)])), rfl, trivial⟩, rfl⟩
  repeat refine zck ?_
  refine run_bind_eq (l' := [(0, .slice (some ⟨bb, 0, none⟩) N cap), (1, .int .i64 a), (10, .int .i64 ((i : Nat) : Int)), (11, .int .i64 ((j : Nat) : Int))]) (Γ' := [Dat 27 bb N cap d]) ?_ (fun junk => ?_)
  · repeat' (first | refine zcl ?_ | (refine zap rfl ?_; first | ((with_reducible refine zct ?_); first | refine zaj rfl ?_ | refine zak rfl ?_ | refine zal rfl ?_ | refine zam rfl rfl (fun _ => ?_) (fun _ => ?_))) | refine zch ?_)
    refine run_loop (S := Nat) (fun u => [(0, .slice (some ⟨bb, 0, none⟩) N cap), (1, .int .i64 a), (10, .int .i64 ((i : Nat) : Int)), (11, .int .i64 ((u : Nat) : Int))]) (fun u Γ => Γ = [Dat 27 bb N cap d] ∧ u ≤ b - 1 ∧ i ≤ u + 1 ∧ scanDown (fun x => !ltInt x d[a]!) d (i) u = j) (fun u => u) (b - 1) ⟨rfl, rfl, int_eq (by first | rfl | omega | (dsimp only; omega)), int_eq (by first | rfl | omega | (dsimp only; omega)), trivial⟩ ⟨?_, by omega, by omega, hj.symm⟩ ?_
    · rfl
    rintro u Γ junk ⟨rfl, h1, h2, h4⟩
    try dsimp only at h1 h2 h4 ⊢
    by_cases hc : i ≤ u
    · obtain ⟨u, rfl⟩ : ∃ m, u = m + 1 := ⟨u - 1, by omega⟩
      repeat' (first | refine zck ?_ | refine run_drawR PP_mixed (by kernel_rfl) (by kernel_rfl) ?_ | (refine zap rfl ?_; first | refine reg_load_d 0 rfl rfl (by omega) ?_ | ((with_reducible refine zct ?_); refine zaj rfl ?_) | ((with_reducible refine zcu ?_); refine zan rfl ?_) | ((with_reducible refine zcx ?_); refine zah [] (less_spec w0 _ _) rfl rfl rfl sub_nil rfl ?_) | ((with_reducible refine zda ?_); refine zbi rfl rfl (by omega) ?_) | ((with_reducible refine zdb ?_); refine zby rfl ?_) | ((with_reducible refine zdc ?_); refine zbu rfl ?_) | ((with_reducible refine zdf ?_); refine zas rfl rfl (by omega) ?_)) | refine zch ?_)
      refine run_cond rfl (fun hE => ?_) (fun hE => ?_)
      · repeat' (first | refine zcp (by kernel_rfl) ?_ | refine zcm ?_ | refine zcl ?_ | refine zcn ?_ | (refine zap rfl ?_; first | ((with_reducible refine zcu ?_); refine zan rfl ?_) | ((with_reducible refine zcv ?_); refine zan rfl ?_) | ((with_reducible refine zda ?_); refine zav rfl rfl (by omega) ?_)) | refine zch ?_)
        refine cut_end ⟨rfl, u, ⟨rfl, rfl, rfl, int_eq (by omega), trivial⟩, ⟨rfl, by omega, by omega, ?_⟩, by omega⟩
        rw [← h4, down_go hc (by simpa [ltInt] using hE)]
      · refine cut_exit rfl rfl ?_
        refine cut_end ⟨rfl, ⟨rfl, rfl, rfl, int_eq (congrArg Int.ofNat (by rw [← h4, down_stop (fun _ _ => by simpa [ltInt] using hE)])), trivial⟩, rfl⟩
    · repeat' (first | refine zck ?_ | refine run_drawR PP_mixed (by kernel_rfl) (by kernel_rfl) ?_ | (refine zap rfl ?_; first | ((with_reducible refine zct ?_); refine zak rfl ?_) | ((with_reducible refine zcu ?_); refine zan rfl ?_) | ((with_reducible refine zda ?_); refine zbj rfl rfl (by omega) ?_) | ((with_reducible refine zdc ?_); refine zbv rfl ?_)) | refine zch ?_ | refine zcj rfl ?_)
      refine cut_exit rfl rfl ?_
      refine cut_end ⟨rfl, ⟨rfl, rfl, rfl, int_eq (congrArg Int.ofNat (by rw [← h4, down_stop (fun _ h => absurd h hc)])), trivial⟩, rfl⟩
  by_cases hgt : j < i
  · repeat' (first | refine zck ?_ | refine zcp (by kernel_rfl) ?_ | refine run_drawR PP_mixed (by kernel_rfl) (by kernel_rfl) ?_ | (refine zap rfl ?_; first | refine reg_load_d 0 rfl rfl (by omega) ?_ | refine reg_store_d 0 rfl rfl rfl (by omega) rfl ?_ | ((with_reducible refine zcu ?_); refine zan rfl ?_) | ((with_reducible refine zcv ?_); refine zan rfl ?_) | ((with_reducible refine zda ?_); refine zbk rfl rfl (by omega) ?_) | ((with_reducible refine zdf ?_); refine zas rfl rfl (by omega) ?_)) | refine zch ?_ | refine zci rfl ?_)
    rw [part_gt hd hi hj hgt]
    exact ret_tmp2 rfl ⟨rfl, rfl⟩
  · rw [part_le hd hi hj hgt]
    replace hij := hij hgt
    obtain ⟨e, he⟩ : ∃ e, e = swp d i j := ⟨_, rfl⟩
    have hes : e.size = N := by rw [he, Go.Sort.size_swp]; exact hds
    repeat' (first | refine zck ?_ | refine zcp (by kernel_rfl) ?_ | refine run_drawR PP_mixed (by kernel_rfl) (by kernel_rfl) ?_ | refine zcm ?_ | refine zcl ?_ | (refine zap rfl ?_; first | refine reg_load_d 0 rfl rfl (by omega) ?_ | refine reg_store_d 0 rfl rfl rfl (by omega) rfl ?_ | ((with_reducible refine zcu ?_); refine zan rfl ?_) | ((with_reducible refine zcv ?_); refine zan rfl ?_) | ((with_reducible refine zda ?_); first | refine zbl rfl rfl (by omega) ?_ | refine zau rfl rfl (by omega) ?_ | refine zav rfl rfl (by omega) ?_) | ((with_reducible refine zdf ?_); refine zas rfl rfl (by omega) ?_)) | refine zch ?_ | refine zcj rfl ?_)
    refine run_loop (S := Nat × Nat × Array Int) (fun s => [(0, .slice (some ⟨bb, 0, none⟩) N cap), (1, .int .i64 a), (10, .int .i64 s.1), (11, .int .i64 s.2.1)])
      (fun s Γ => Γ = [Dat 27 bb N cap s.2.2] ∧ a < s.1 ∧ s.1 ≤ s.2.1 + 1 ∧ s.2.1 < b ∧ s.2.2.size = N ∧ partLoop ltInt a s.1 s.2.1 s.2.2 = partLoop ltInt a (i + 1) (j - 1) e)
      (fun s => s.2.1 + 1 - s.1) (i + 1, j - 1, e) ⟨rfl, rfl, int_eq (by first | rfl | omega | (dsimp only; omega)), int_eq (by first | rfl | omega | (dsimp only; omega)), trivial⟩ ⟨by rw [he]; rfl, by dsimp only; omega, by dsimp only; omega, by dsimp only; omega, hes, rfl⟩ ?_
    rw [← he]
    generalize partLoop ltInt a (i + 1) (j - 1) e = RR
    clear hi hj he hes hd hds hi1 hi2 hj1 hj2 hij hgt
    clear e i j d
    rintro ⟨i, j, d⟩ Γ junk ⟨rfl, g1, g2, g3, g4, g5⟩
    dsimp only at g1 g2 g3 g4 g5 ⊢
    obtain ⟨i2, hi⟩ : ∃ i2, i2 = scanUp (fun x => ltInt x d[a]!) d j i := ⟨_, rfl⟩
    obtain ⟨j2, hj⟩ : ∃ j2, j2 = scanDown (fun x => !ltInt x d[a]!) d i2 j := ⟨_, rfl⟩
    have hi1 : i ≤ i2 := by rw [hi]; exact Go.Sort.scanUp_ge _ _ _ _
    have hi2 : i2 ≤ j + 1 := by rw [hi]; exact (Go.Sort.scanUp_spec _ d j _ i rfl).2.1 (by omega)
    have hj1 : j2 ≤ j := by rw [hj]; exact Go.Sort.scanDown_le _ _ _ _
    have hj2 : i2 ≤ j2 + 1 := by rw [hj]; exact (Go.Sort.scanDown_spec _ d i2 j).2.1 hi2
    have hij : ¬ j2 < i2 → i2 < j2 := fun h => by
      rcases Nat.lt_or_ge i2 j2 with h1 | h1
      · exact h1
      · have e : j2 = i2 := by omega
        have p1 := (Go.Sort.scanUp_spec (fun x => ltInt x d[a]!) d (j) _ (i) rfl).2.2.2
        have p2 := (Go.Sort.scanDown_spec (fun x => !ltInt x d[a]!) d i2 (j)).2.2.2
        rw [← hi] at p1; rw [← hj] at p2
        have p3 := p1 (by omega); have p4 := p2 (by omega) (by omega)
        rw [e] at p4; (try dsimp only at p3 p4); simp [p3] at p4
    have hpe := Go.Sort.partLoop_eq ltInt a i j d
    rw [← hi, ← hj] at hpe
    refine zcl ?_
    repeat refine zck ?_
    refine run_bind_eq (l' := [(0, .slice (some ⟨bb, 0, none⟩) N cap), (1, .int .i64 a), (10, .int .i64 ((i2 : Nat) : Int)), (11, .int .i64 ((j : Nat) : Int))]) (Γ' := [Dat 27 bb N cap d]) ?_ (fun junk => ?_)
    · repeat' (first | refine zcl ?_ | (refine zap rfl ?_; first | ((with_reducible refine zct ?_); first | refine zaj rfl ?_ | refine zak rfl ?_ | refine zal rfl ?_ | refine zam rfl rfl (fun _ => ?_) (fun _ => ?_))) | refine zch ?_)
      refine run_loop (S := Nat) (fun u => [(0, .slice (some ⟨bb, 0, none⟩) N cap), (1, .int .i64 a), (10, .int .i64 ((u : Nat) : Int)), (11, .int .i64 ((j : Nat) : Int))]) (fun u Γ => Γ = [Dat 27 bb N cap d] ∧ i ≤ u ∧ u ≤ j + 1 ∧ scanUp (fun x => ltInt x d[a]!) d (j) u = i2) (fun u => j + 1 - u) (i) ⟨rfl, rfl, int_eq (by first | rfl | omega | (dsimp only; omega)), int_eq (by first | rfl | omega | (dsimp only; omega)), trivial⟩ ⟨?_, by omega, by omega, hi.symm⟩ ?_
      · rfl
      rintro u Γ junk ⟨rfl, h1, h2, h4⟩
      try dsimp only at h1 h2 h4 ⊢
      by_cases hc : u ≤ j
      · repeat' (first | refine zck ?_ | refine run_drawR PP_mixed (by kernel_rfl) (by kernel_rfl) ?_ | (refine zap rfl ?_; first | refine reg_load_d 0 rfl rfl (by omega) ?_ | ((with_reducible refine zct ?_); refine zaj rfl ?_) | ((with_reducible refine zcu ?_); refine zan rfl ?_) | ((with_reducible refine zcx ?_); refine zah [] (less_spec w0 _ _) rfl rfl rfl sub_nil rfl ?_) | ((with_reducible refine zda ?_); refine zbi rfl rfl (by omega) ?_) | ((with_reducible refine zdc ?_); refine zbu rfl ?_) | ((with_reducible refine zdf ?_); refine zas rfl rfl (by omega) ?_)) | refine zch ?_)
        refine run_cond rfl (fun hE => ?_) (fun hE => ?_)
        · repeat' (first | refine zcp (by kernel_rfl) ?_ | refine zcm ?_ | refine zcl ?_ | refine zcn ?_ | (refine zap rfl ?_; first | ((with_reducible refine zcu ?_); refine zan rfl ?_) | ((with_reducible refine zcv ?_); refine zan rfl ?_) | ((with_reducible refine zda ?_); refine zau rfl rfl (by omega) ?_)) | refine zch ?_)
          refine cut_end ⟨rfl, u + 1, ⟨rfl, rfl, int_eq (by omega), rfl, trivial⟩, ⟨rfl, by omega, by omega, ?_⟩, by omega⟩
          rw [← h4, up_go hc (by simpa [ltInt] using hE)]
        · refine cut_exit rfl rfl ?_
          refine cut_end ⟨rfl, ⟨rfl, rfl, int_eq (congrArg Int.ofNat (by rw [← h4, up_stop (fun _ => by simpa [ltInt] using hE)])), rfl, trivial⟩, rfl⟩
      · repeat' (first | refine zck ?_ | refine run_drawR PP_mixed (by kernel_rfl) (by kernel_rfl) ?_ | (refine zap rfl ?_; first | ((with_reducible refine zct ?_); refine zak rfl ?_) | ((with_reducible refine zcu ?_); refine zan rfl ?_) | ((with_reducible refine zda ?_); refine zbj rfl rfl (by omega) ?_) | ((with_reducible refine zdc ?_); refine zbv rfl ?_)) | refine zch ?_ | refine zcj rfl ?_)
        refine cut_exit rfl rfl ?_
        refine cut_end ⟨rfl, ⟨rfl, rfl, int_eq (congrArg Int.ofNat (by rw [← h4, up_stop (fun h => absurd h hc)])), rfl, trivial⟩, rfl⟩
    repeat refine zck ?_
    refine run_bind_eq (l' := [(0, .slice (some ⟨bb, 0, none⟩) N cap), (1, .int .i64 a), (10, .int .i64 ((i2 : Nat) : Int)), (11, .int .i64 ((j2 : Nat) : Int))]) (Γ' := [Dat 27 bb N cap d]) ?_ (fun junk => ?_)
    · repeat' (first | refine zcl ?_ | (refine zap rfl ?_; first | ((with_reducible refine zct ?_); first | refine zaj rfl ?_ | refine zak rfl ?_ | refine zal rfl ?_ | refine zam rfl rfl (fun _ => ?_) (fun _ => ?_))) | refine zch ?_)
      refine run_loop (S := Nat) (fun u => [(0, .slice (some ⟨bb, 0, none⟩) N cap), (1, .int .i64 a), (10, .int .i64 ((i2 : Nat) : Int)), (11, .int .i64 ((u : Nat) : Int))]) (fun u Γ => Γ = [Dat 27 bb N cap d] ∧ u ≤ j ∧ i2 ≤ u + 1 ∧ scanDown (fun x => !ltInt x d[a]!) d (i2) u = j2) (fun u => u) (j) ⟨rfl, rfl, int_eq (by first | rfl | omega | (dsimp only; omega)), int_eq (by first | rfl | omega | (dsimp only; omega)), trivial⟩ ⟨?_, by omega, by omega, hj.symm⟩ ?_
      · rfl
      rintro u Γ junk ⟨rfl, h1, h2, h4⟩
      try dsimp only at h1 h2 h4 ⊢
      by_cases hc : i2 ≤ u
      · obtain ⟨u, rfl⟩ : ∃ m, u = m + 1 := ⟨u - 1, by omega⟩
        repeat' (first | refine zck ?_ | refine run_drawR PP_mixed (by kernel_rfl) (by kernel_rfl) ?_ | (refine zap rfl ?_; first | refine reg_load_d 0 rfl rfl (by omega) ?_ | ((with_reducible refine zct ?_); refine zaj rfl ?_) | ((with_reducible refine zcu ?_); refine zan rfl ?_) | ((with_reducible refine zcx ?_); refine zah [] (less_spec w0 _ _) rfl rfl rfl sub_nil rfl ?_) | ((with_reducible refine zda ?_); refine zbi rfl rfl (by omega) ?_) | ((with_reducible refine zdb ?_); refine zby rfl ?_) | ((with_reducible refine zdc ?_); refine zbu rfl ?_) | ((with_reducible refine zdf ?_); refine zas rfl rfl (by omega) ?_)) | refine zch ?_)
        refine run_cond rfl (fun hE => ?_) (fun hE => ?_)
        · repeat' (first | refine zcp (by kernel_rfl) ?_ | refine zcm ?_ | refine zcl ?_ | refine zcn ?_ | (refine zap rfl ?_; first | ((with_reducible refine zcu ?_); refine zan rfl ?_) | ((with_reducible refine zcv ?_); refine zan rfl ?_) | ((with_reducible refine zda ?_); refine zav rfl rfl (by omega) ?_)) | refine zch ?_)
          refine cut_end ⟨rfl, u, ⟨rfl, rfl, rfl, int_eq (by omega), trivial⟩, ⟨rfl, by omega, by omega, ?_⟩, by omega⟩
          rw [← h4, down_go hc (by simpa [ltInt] using hE)]
        · refine cut_exit rfl rfl ?_
          refine cut_end ⟨rfl, ⟨rfl, rfl, rfl, int_eq (congrArg Int.ofNat (by rw [← h4, down_stop (fun _ _ => by simpa [ltInt] using hE)])), trivial⟩, rfl⟩
      · repeat' (first | refine zck ?_ | refine run_drawR PP_mixed (by kernel_rfl) (by kernel_rfl) ?_ | (refine zap rfl ?_; first | ((with_reducible refine zct ?_); refine zak rfl ?_) | ((with_reducible refine zcu ?_); refine zan rfl ?_) | ((with_reducible refine zda ?_); refine zbj rfl rfl (by omega) ?_) | ((with_reducible refine zdc ?_); refine zbv rfl ?_)) | refine zch ?_ | refine zcj rfl ?_)
        refine cut_exit rfl rfl ?_
        refine cut_end ⟨rfl, ⟨rfl, rfl, rfl, int_eq (congrArg Int.ofNat (by rw [← h4, down_stop (fun _ h => absurd h hc)])), trivial⟩, rfl⟩
    by_cases hgt : j2 < i2
    · repeat' (first | refine zck ?_ | refine zcp (by kernel_rfl) ?_ | (refine zap rfl ?_; first | ((with_reducible refine zcu ?_); refine zan rfl ?_) | ((with_reducible refine zda ?_); refine zbk rfl rfl (by omega) ?_)) | refine zch ?_ | refine zci rfl ?_)
      refine cut_exit rfl rfl ?_
      repeat' (first | refine zck ?_ | refine zcp (by kernel_rfl) ?_ | refine run_drawR PP_mixed (by kernel_rfl) (by kernel_rfl) ?_ | (refine zap rfl ?_; first | refine reg_load_d 0 rfl rfl (by omega) ?_ | refine reg_store_d 0 rfl rfl rfl (by omega) rfl ?_ | ((with_reducible refine zcu ?_); refine zan rfl ?_) | ((with_reducible refine zcv ?_); refine zan rfl ?_) | ((with_reducible refine zdf ?_); refine zas rfl rfl (by omega) ?_)) | refine zch ?_)
      rw [if_pos hgt] at hpe
      rw [← g5, hpe]
      exact ret_tmp2 rfl ⟨rfl, rfl⟩
    · replace hij := hij hgt
      repeat' (first | refine zck ?_ | refine zcp (by kernel_rfl) ?_ | refine run_drawR PP_mixed (by kernel_rfl) (by kernel_rfl) ?_ | refine zcm ?_ | refine zcn ?_ | (refine zap rfl ?_; first | refine reg_load_d 0 rfl rfl (by omega) ?_ | refine reg_store_d 0 rfl rfl rfl (by omega) rfl ?_ | ((with_reducible refine zcu ?_); refine zan rfl ?_) | ((with_reducible refine zcv ?_); refine zan rfl ?_) | ((with_reducible refine zda ?_); first | refine zbl rfl rfl (by omega) ?_ | refine zau rfl rfl (by omega) ?_ | refine zav rfl rfl (by omega) ?_) | ((with_reducible refine zdf ?_); refine zas rfl rfl (by omega) ?_)) | refine zch ?_ | refine zcj rfl ?_)
      refine cut_end ⟨rfl, (i2 + 1, j2 - 1, swp d i2 j2), ⟨rfl, rfl, int_eq (by first | rfl | omega | (dsimp only; omega)), int_eq (by first | rfl | omega | (dsimp only; omega)), trivial⟩, ⟨rfl, by dsimp only; omega, by dsimp only; omega, by dsimp only; omega, ?_, ?_⟩, by dsimp only; omega⟩
      · rw [Go.Sort.size_swp]; exact g4
      · rw [if_neg hgt] at hpe
        rw [← g5, hpe]
end Go.Proofs.Ytpcnbaddkblbhaa

namespace Go.Proofs.Ytpcnbaddkblbhaa
open Go.Vc
open Go.Sort (ltInt swp scanUp scanDown partEqLoop partitionEqual)
set_option maxHeartbeats 4000000
theorem partEq_spec (w0 : World) (bb N cap : Nat) (D : Array Int) (a b pivot : Nat) (hN : N ≤ 1152921504606846975) (hap : a ≤ pivot) (hpb : pivot < b) (hb : b ≤ N) (hD : D.size = N) :
    FnE PP w0 [] 86 [.slice (some ⟨bb, 0, none⟩) N cap, .int .i64 a, .int .i64 b, .int .i64 pivot] [Dat 27 bb N cap D]
      (.int .i64 ((partitionEqual ltInt D a b pivot).1 : Nat)) [Dat 27 bb N cap (partitionEqual ltInt D a b pivot).2] := by
  refine fn_of_run en86 fn86 rfl rfl rfl ?_
  repeat' (first | refine zck ?_ | refine zcp (by kernel_rfl) ?_ | refine run_drawR PP_mixed (by kernel_rfl) (by kernel_rfl) ?_ | refine zcl ?_ | (refine zap rfl ?_; first | refine reg_load_d 0 rfl rfl (by omega) ?_ | refine reg_store_d 0 rfl rfl rfl (by omega) rfl ?_ | ((with_reducible refine zcu ?_); refine zan rfl ?_) | ((with_reducible refine zcv ?_); refine zan rfl ?_) | ((with_reducible refine zda ?_); first | refine zau rfl rfl (by omega) ?_ | refine zav rfl rfl (by omega) ?_) | ((with_reducible refine zdf ?_); refine zas rfl rfl (by omega) ?_)) | refine zch ?_)
  refine run_loop (S := Nat × Nat × Array Int) (fun s => [(0, .slice (some ⟨bb, 0, none⟩) N cap), (1, .int .i64 a), (9, .int .i64 s.1), (10, .int .i64 s.2.1)])
    (fun s Γ => Γ = [Dat 27 bb N cap s.2.2] ∧ a < s.1 ∧ s.1 ≤ s.2.1 + 1 ∧ s.2.1 < b ∧ s.2.2.size = N ∧ partEqLoop ltInt a s.1 s.2.1 s.2.2 = partitionEqual ltInt D a b pivot)
    (fun s => s.2.1 + 1 - s.1) (a + 1, b - 1, swp D a pivot) ⟨rfl, rfl, int_eq (by first | rfl | omega | (dsimp only; omega)), int_eq (by first | rfl | omega | (dsimp only; omega)), trivial⟩ ⟨rfl, by dsimp only; omega, by dsimp only; omega, by dsimp only; omega, by rw [Go.Sort.size_swp]; exact hD, rfl⟩ ?_
  generalize partitionEqual ltInt D a b pivot = RR
  rintro ⟨i, j, d⟩ Γ junk ⟨rfl, g1, g2, g3, g4, g5⟩
  dsimp only at g1 g2 g3 g4 g5 ⊢
  obtain ⟨i2, hi⟩ : ∃ i2, i2 = scanUp (fun x => !ltInt d[a]! x) d j i := ⟨_, rfl⟩
  obtain ⟨j2, hj⟩ : ∃ j2, j2 = scanDown (fun x => ltInt d[a]! x) d i2 j := ⟨_, rfl⟩
  have hi1 : i ≤ i2 := by rw [hi]; exact Go.Sort.scanUp_ge _ _ _ _
  have hi2 : i2 ≤ j + 1 := by rw [hi]; exact (Go.Sort.scanUp_spec _ d j _ i rfl).2.1 (by omega)
  have hj1 : j2 ≤ j := by rw [hj]; exact Go.Sort.scanDown_le _ _ _ _
  have hj2 : i2 ≤ j2 + 1 := by rw [hj]; exact (Go.Sort.scanDown_spec _ d i2 j).2.1 hi2
  have hij : ¬ j2 < i2 → i2 < j2 := fun h => by
    rcases Nat.lt_or_ge i2 j2 with h1 | h1
    · exact h1
    · have e : j2 = i2 := by omega
      have p1 := (Go.Sort.scanUp_spec (fun x => !ltInt d[a]! x) d j _ i rfl).2.2.2
      have p2 := (Go.Sort.scanDown_spec (fun x => ltInt d[a]! x) d i2 j).2.2.2
      rw [← hi] at p1; rw [← hj] at p2
      have p3 := p1 (by omega); have p4 := p2 (by omega) (by omega)
      rw [e] at p4; (try dsimp only at p3 p4); simp [p4] at p3
  have hpe := Go.Sort.partEqLoop_eq ltInt a i j d
  rw [← hi, ← hj] at hpe
  refine zcl ?_
  repeat refine zck ?_
  refine run_bind_eq (l' := [(0, .slice (some ⟨bb, 0, none⟩) N cap), (1, .int .i64 a), (9, .int .i64 ((i2 : Nat) : Int)), (10, .int .i64 ((j : Nat) : Int))]) (Γ' := [Dat 27 bb N cap d]) ?_ (fun junk => ?_)
  · repeat' (first | refine zcl ?_ | (refine zap rfl ?_; first | ((with_reducible refine zct ?_); first | refine zaj rfl ?_ | refine zak rfl ?_ | refine zal rfl ?_ | refine zam rfl rfl (fun _ => ?_) (fun _ => ?_))) | refine zch ?_)
    refine run_loop (S := Nat) (fun u => [(0, .slice (some ⟨bb, 0, none⟩) N cap), (1, .int .i64 a), (9, .int .i64 ((u : Nat) : Int)), (10, .int .i64 ((j : Nat) : Int))]) (fun u Γ => Γ = [Dat 27 bb N cap d] ∧ i ≤ u ∧ u ≤ j + 1 ∧ scanUp (fun x => !ltInt d[a]! x) d (j) u = i2) (fun u => j + 1 - u) (i) ⟨rfl, rfl, int_eq (by first | rfl | omega | (dsimp only; omega)), int_eq (by first | rfl | omega | (dsimp only; omega)), trivial⟩ ⟨?_, by omega, by omega, hi.symm⟩ ?_
    · rfl
    rintro u Γ junk ⟨rfl, h1, h2, h4⟩
    try dsimp only at h1 h2 h4 ⊢
    by_cases hc : u ≤ j
    · repeat' (first | refine zck ?_ | refine run_drawR PP_mixed (by kernel_rfl) (by kernel_rfl) ?_ | (refine zap rfl ?_; first | refine reg_load_d 0 rfl rfl (by omega) ?_ | ((with_reducible refine zct ?_); refine zaj rfl ?_) | ((with_reducible refine zcu ?_); refine zan rfl ?_) | ((with_reducible refine zcx ?_); refine zah [] (less_spec w0 _ _) rfl rfl rfl sub_nil rfl ?_) | ((with_reducible refine zda ?_); refine zbi rfl rfl (by omega) ?_) | ((with_reducible refine zdb ?_); refine zby rfl ?_) | ((with_reducible refine zdc ?_); refine zbu rfl ?_) | ((with_reducible refine zdf ?_); refine zas rfl rfl (by omega) ?_)) | refine zch ?_)
      refine run_cond rfl (fun hE => ?_) (fun hE => ?_)
      · repeat' (first | refine zcp (by kernel_rfl) ?_ | refine zcm ?_ | refine zcl ?_ | refine zcn ?_ | (refine zap rfl ?_; first | ((with_reducible refine zcu ?_); refine zan rfl ?_) | ((with_reducible refine zcv ?_); refine zan rfl ?_) | ((with_reducible refine zda ?_); refine zau rfl rfl (by omega) ?_)) | refine zch ?_)
        refine cut_end ⟨rfl, u + 1, ⟨rfl, rfl, int_eq (by omega), rfl, trivial⟩, ⟨rfl, by omega, by omega, ?_⟩, by omega⟩
        rw [← h4, up_go hc (by simpa [ltInt] using hE)]
      · refine cut_exit rfl rfl ?_
        refine cut_end ⟨rfl, ⟨rfl, rfl, int_eq (congrArg Int.ofNat (by rw [← h4, up_stop (fun _ => by simpa [ltInt] using hE)])), rfl, trivial⟩, rfl⟩
    · repeat' (first | refine zck ?_ | refine run_drawR PP_mixed (by kernel_rfl) (by kernel_rfl) ?_ | (refine zap rfl ?_; first | ((with_reducible refine zct ?_); refine zak rfl ?_) | ((with_reducible refine zcu ?_); refine zan rfl ?_) | ((with_reducible refine zda ?_); refine zbj rfl rfl (by omega) ?_) | ((with_reducible refine zdc ?_); refine zbv rfl ?_)) | refine zch ?_ | refine zcj rfl ?_)
      refine cut_exit rfl rfl ?_
      refine cut_end ⟨rfl, ⟨rfl, rfl, int_eq (congrArg Int.ofNat (by rw [← h4, up_stop (fun h => absurd h hc)])), rfl, trivial⟩, rfl⟩
  repeat refine zck ?_
  refine run_bind_eq (l' := [(0, .slice (some ⟨bb, 0, none⟩) N cap), (1, .int .i64 a), (9, .int .i64 ((i2 : Nat) : Int)), (10, .int .i64 ((j2 : Nat) : Int))]) (Γ' := [Dat 27 bb N cap d]) ?_ (fun junk => ?_)
  · repeat' (first | refine zcl ?_ | (refine zap rfl ?_; first | ((with_reducible refine zct ?_); first | refine zaj rfl ?_ | refine zak rfl ?_ | refine zal rfl ?_ | refine zam rfl rfl (fun _ => ?_) (fun _ => ?_))) | refine zch ?_)
    refine run_loop (S := Nat) (fun u => [(0, .slice (some ⟨bb, 0, none⟩) N cap), (1, .int .i64 a), (9, .int .i64 ((i2 : Nat) : Int)), (10, .int .i64 ((u : Nat) : Int))]) (fun u Γ => Γ = [Dat 27 bb N cap d] ∧ u ≤ j ∧ i2 ≤ u + 1 ∧ scanDown (fun x => ltInt d[a]! x) d (i2) u = j2) (fun u => u) (j) ⟨rfl, rfl, int_eq (by first | rfl | omega | (dsimp only; omega)), int_eq (by first | rfl | omega | (dsimp only; omega)), trivial⟩ ⟨?_, by omega, by omega, hj.symm⟩ ?_
    · rfl
    rintro u Γ junk ⟨rfl, h1, h2, h4⟩
    try dsimp only at h1 h2 h4 ⊢
    by_cases hc : i2 ≤ u
    · obtain ⟨u, rfl⟩ : ∃ m, u = m + 1 := ⟨u - 1, by omega⟩
      repeat' (first | refine zck ?_ | refine run_drawR PP_mixed (by kernel_rfl) (by kernel_rfl) ?_ | (refine zap rfl ?_; first | refine reg_load_d 0 rfl rfl (by omega) ?_ | ((with_reducible refine zct ?_); refine zaj rfl ?_) | ((with_reducible refine zcu ?_); refine zan rfl ?_) | ((with_reducible refine zcx ?_); refine zah [] (less_spec w0 _ _) rfl rfl rfl sub_nil rfl ?_) | ((with_reducible refine zda ?_); refine zbi rfl rfl (by omega) ?_) | ((with_reducible refine zdc ?_); refine zbu rfl ?_) | ((with_reducible refine zdf ?_); refine zas rfl rfl (by omega) ?_)) | refine zch ?_)
      refine run_cond rfl (fun hE => ?_) (fun hE => ?_)
      · repeat' (first | refine zcp (by kernel_rfl) ?_ | refine zcm ?_ | refine zcl ?_ | refine zcn ?_ | (refine zap rfl ?_; first | ((with_reducible refine zcu ?_); refine zan rfl ?_) | ((with_reducible refine zcv ?_); refine zan rfl ?_) | ((with_reducible refine zda ?_); refine zav rfl rfl (by omega) ?_)) | refine zch ?_)
        refine cut_end ⟨rfl, u, ⟨rfl, rfl, rfl, int_eq (by omega), trivial⟩, ⟨rfl, by omega, by omega, ?_⟩, by omega⟩
        rw [← h4, down_go hc (by simpa [ltInt] using hE)]
      · refine cut_exit rfl rfl ?_
        refine cut_end ⟨rfl, ⟨rfl, rfl, rfl, int_eq (congrArg Int.ofNat (by rw [← h4, down_stop (fun _ _ => by simpa [ltInt] using hE)])), trivial⟩, rfl⟩
    · repeat' (first | refine zck ?_ | refine run_drawR PP_mixed (by kernel_rfl) (by kernel_rfl) ?_ | (refine zap rfl ?_; first | ((with_reducible refine zct ?_); refine zak rfl ?_) | ((with_reducible refine zcu ?_); refine zan rfl ?_) | ((with_reducible refine zda ?_); refine zbj rfl rfl (by omega) ?_) | ((with_reducible refine zdc ?_); refine zbv rfl ?_)) | refine zch ?_ | refine zcj rfl ?_)
      refine cut_exit rfl rfl ?_
      refine cut_end ⟨rfl, ⟨rfl, rfl, rfl, int_eq (congrArg Int.ofNat (by rw [← h4, down_stop (fun _ h => absurd h hc)])), trivial⟩, rfl⟩
  by_cases hgt : j2 < i2
  · repeat' (first | refine zck ?_ | refine zcp (by kernel_rfl) ?_ | (refine zap rfl ?_; first | ((with_reducible refine zcu ?_); refine zan rfl ?_) | ((with_reducible refine zda ?_); refine zbk rfl rfl (by omega) ?_)) | refine zch ?_ | refine zci rfl ?_)
    refine cut_exit rfl rfl ?_
    repeat' (first | refine zck ?_ | refine zcp (by kernel_rfl) ?_ | (refine zap rfl ?_; first | ((with_reducible refine zcu ?_); refine zan rfl ?_) | ((with_reducible refine zcv ?_); refine zan rfl ?_)) | refine zch ?_)
    rw [if_pos hgt] at hpe
    rw [← g5, hpe]
    exact ret_tmp1 rfl ⟨rfl, rfl⟩
  · replace hij := hij hgt
    repeat' (first | refine zck ?_ | refine zcp (by kernel_rfl) ?_ | refine run_drawR PP_mixed (by kernel_rfl) (by kernel_rfl) ?_ | refine zcm ?_ | refine zcn ?_ | (refine zap rfl ?_; first | refine reg_load_d 0 rfl rfl (by omega) ?_ | refine reg_store_d 0 rfl rfl rfl (by omega) rfl ?_ | ((with_reducible refine zcu ?_); refine zan rfl ?_) | ((with_reducible refine zcv ?_); refine zan rfl ?_) | ((with_reducible refine zda ?_); first | refine zbl rfl rfl (by omega) ?_ | refine zau rfl rfl (by omega) ?_ | refine zav rfl rfl (by omega) ?_) | ((with_reducible refine zdf ?_); refine zas rfl rfl (by omega) ?_)) | refine zch ?_ | refine zcj rfl ?_)
    refine cut_end ⟨rfl, (i2 + 1, j2 - 1, swp d i2 j2), ⟨rfl, rfl, int_eq (by first | rfl | omega | (dsimp only; omega)), int_eq (by first | rfl | omega | (dsimp only; omega)), trivial⟩, ⟨rfl, by dsimp only; omega, by dsimp only; omega, by dsimp only; omega, ?_, ?_⟩, by dsimp only; omega⟩
    · rw [Go.Sort.size_swp]; exact g4
    · rw [if_neg hgt] at hpe
      rw [← g5, hpe]
end Go.Proofs.Ytpcnbaddkblbhaa

