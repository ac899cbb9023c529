import Derived.Test.YtpcnbaddkblbhaaRows
import Derived.OpenShut
import Derived.Handed
import Derived.JoinedOf
import Derived.Test.YtpcnbaddkblbhaaPart10
import Derived.Test.YtpcnbaddkblbhaaKit
/- Lemmas and walks for the claims of this seat (own work): Lw2 Lw3 Lw4 Lw5 Lw6 Fd0 Pg2. -/
/- The law's step, within the transaction. -/
namespace Sim
open Go Go.Vc
/-- What a call makes of the elements and the joins. -/
def stepJ (K : Int) (k : Nat) (J : Jn) (d X Y : Int) : Nat × Jn :=
  if d % 6 = 2 ∨ d % 6 = 3 then (if (1 ≤ X ∧ X ≤ k) ∧ (1 ≤ Y ∧ Y ≤ k) ∧ rep J X ≠ rep J Y then (k, lowHigh J (rep J X) (rep J Y) :: J) else (k, J))
  else if d % 6 = 4 then (k, J.tail)
  else if d % 6 = 5 then (k, J)
  else if k < 64 ∧ (cN (k + 1) : Int) ≤ K then (k + 1, J) else (k, J)
end Sim
namespace Go.Proofs.Ytpcnbaddkblbhaa
open Go.Vc Sim
set_option maxHeartbeats 8000000
abbrev ptr (b : Nat) : Value := .pointer (some ⟨b, 0, none⟩)
/-- The lists of the reference. -/
structure Rl where
  a1 : Option Addr
  c1 : Nat
  a2 : Option Addr
  c2 : Nat
  a3 : Option Addr
  c3 : Nat
abbrev rl3 (r : Rl) (k : Nat) (J : Jn) : List Asn := [LstA 3 (.slice r.a1 (bL k J).length r.c1) (bL k J), LstA 3 (.slice r.a2 (zL k J).length r.c2) (zL k J), LstA 3 (.slice r.a3 (jL J).length r.c3) (jL J)]
abbrev stC (wb : Nat) (K : Int) (r : Rl) (k : Nat) (J : Jn) : List Value := [.map (some wb), .int .i64 1, .int .i64 64, .int .i64 K, .int .i64 16, .slice r.a1 (bL k J).length r.c1, .slice r.a2 (zL k J).length r.c2, .slice r.a3 (jL J).length r.c3]
abbrev stB (xb wb : Nat) (K : Int) (r : Rl) (k : Nat) (J : Jn) : Asn := pt xb (.cells (List.toArray (stC wb K r k J)) 36 (0, 0))
abbrev okB (ob : Nat) (b : Bool) : Asn := pt ob (.cells (List.toArray [.bool b]) 4 (0, 0))
/-- A state of the forest, in memory and in lists. -/
structure Fs (K : Int) (k : Nat) (J : Jn) where
  m : Int → Int
  r : Rl
  ok : ∃ ad, Mm K m k (nC k) (tC k) J ad
abbrev clC (d X Y : Int) : Obj := .cells (List.toArray [.int .u8 d, .int .i64 X, .int .i64 Y]) 66 (0, 0)
theorem rdF {w0 : World} {sh : Shared} {r : Rl} {k : Nat} {J : Jn} (hk : k ≤ 64) (hv : Vd k J) (h1 : RdSl w0 sh encI 1 (.slice r.a1 (bL k J).length r.c1) (bL k J)) (h2 : RdSl w0 sh encI 1 (.slice r.a2 (zL k J).length r.c2) (zL k J)) (h3 : RdSl w0 sh encI 1 (.slice r.a3 (jL J).length r.c3) (jL J)) : RdF w0 sh r.a1 r.c1 r.a2 r.c2 r.a3 r.c3 k J := by
  have := joins_lt hv
  exact ⟨h1, h2, h3, by rw [bL_len]; omega, by rw [zL_len]; omega, by rw [jL_len]; omega⟩
section
variable {K : Int} {m : Int → Int} {k : Nat} {J : Jn} {ad : Nat → Int}
theorem step1_spec (w0 : World) (sh : Shared) (p cb xb ob wb : Nat) (hK : 0 ≤ K ∧ K ≤ 38) (r : Rl) (s : Sp) (hC : Cu 368 s s m 0) (h : Mm K m k (nC k) (tC k) J ad) (d X Y : Int) (hd : 0 ≤ d ∧ d ≤ 255) (hX : X ≤ 9223372036854775807) (hY : Y ≤ 9223372036854775807) (hcb : (cb, clC d X Y) ∈ sh) (k' : Nat) (J' : Jn) (hJ' : stepJ K k J d X Y = (k', J')) :
    Vc.Fn PP w0 sh 54 [spP p, ptr cb, ptr xb, ptr ob] [SpaceA p s, StarsA (stB xb wb K r k J :: okB ob true :: rl3 r k J)]
      (fun v Γ => ∃ (st : Fs K k' J') (s' : Sp) (j : Nat), v = .tuple #[] ∧ Γ = [SpaceA p s', StarsA (stB xb wb K st.r k' J' :: okB ob true :: rl3 st.r k' J')] ∧ j ≤ 50000 ∧ Cu 368 s s' st.m j) := by
  have hd6 : d.tmod 6 = d % 6 := Int.tmod_eq_emod_of_nonneg hd.1
  have hbl := bL_len k J
  have hkl := h.le
  refine fn_of_run en54 fn54 rfl rfl rfl ?_
  refine run_unpack [1] rfl ?_
  refine run_lend3 [2, 2, 2] rfl fun sh' hi r1 r2 r3 => ?_
  have hR := rdF hkl h.vd r1 r2 r3
  have hmc : ∀ hF Γ w, Sh sh' hF → St w0 hF Γ w → w.heap[cb]? = some (clC d X Y) := fun hF Γ w h1 h2 => (h2.frame (h1 _ (hi _ hcb))).2
  have hI := fun x => rfIs w0 sh' hR x
  rw [hbl] at hI
  repeat (first | refine zck ?_ | refine zcl ?_ | refine zcm ?_ | refine zcn ?_)
  first | refine zcp (by kernel_rfl) ?_ | refine zcq PP_mixed (by kernel_rfl) (by kernel_rfl) ?_
  repeat' (refine zap rfl ?_; first | (refine reg_rem rfl rfl (by decide) ?_; rw [hd6]) | refine zad rfl hmc rfl ?_ | ((with_reducible refine zcy ?_); refine zao rfl ?_))
  all_goals refine zch ?_
  all_goals repeat (first | refine zck ?_ | refine zcl ?_ | refine zcm ?_ | refine zcn ?_)
  unfold stepJ at hJ'
  by_cases c23 : d % 6 = 2 ∨ d % 6 = 3
  · rw [if_pos c23] at hJ'
    by_cases cc : (1 ≤ X ∧ X ≤ k) ∧ (1 ≤ Y ∧ Y ≤ k)
    · obtain ⟨cx, cy⟩ := cc
      have dx := decide_eq_true cx
      have dy := decide_eq_true cy
      have ux := upN_rep h.vd (dep J X) X rfl cx.1 cx.2
      have uy := upN_rep h.vd (dep J Y) Y rfl cy.1 cy.2
      by_cases he : rep J X = rep J Y
      · rw [if_neg (fun h => h.2.2 he)] at hJ'
        cases hJ'
        have hU := union_same hK h cx cy he
        rw [← he] at uy
        have hS := rfSame w0 sh' hR _ _ X Y _ ux uy
        rcases c23 with c2 | c2
        · repeat' (first | refine zck ?_ | refine zcp (by kernel_rfl) ?_ | refine zcm ?_ | refine zcn ?_ | (refine zap rfl ?_; first | refine zad rfl hmc rfl ?_ | ((with_reducible refine zct ?_); refine zaj rfl ?_) | ((with_reducible refine zcu ?_); refine zan rfl ?_) | ((with_reducible refine zcv ?_); refine zan rfl ?_) | ((with_reducible refine zcw ?_); first | refine zab 0 rfl rfl rfl ?_ | refine zab 1 rfl rfl rfl ?_ | refine zab 3 rfl rfl rfl ?_) | ((with_reducible refine zcx ?_); first | (refine reg_callO [2] hC ((f0 K).bd_union X Y) hU (by omega) (foUnion w0 p (f0 K) (f0_ok hK) X Y hX hY) rfl rfl rfl sub_nil ?_; rintro x s' m' ⟨rfl, rfl⟩ hC) | (refine zah [] (hI X) rfl rfl rfl (fun _ h => h) rfl ?_; rw [dx]) | (refine zah [] (hI Y) rfl rfl rfl (fun _ h => h) rfl ?_; rw [dy]) | refine zah [] hS rfl rfl rfl (fun _ h => h) rfl ?_) | ((with_reducible refine zcy ?_); refine zao rfl ?_) | ((with_reducible refine zcz ?_); refine zan rfl ?_) | ((with_reducible refine zda ?_); first | refine zbc rfl rfl (by omega) ?_ | refine zbb rfl rfl ?_) | ((with_reducible refine zdb ?_); refine zbx rfl ?_) | ((with_reducible refine zdc ?_); first | refine zbu rfl ?_ | refine zbv rfl ?_) | ((with_reducible refine zdd ?_); first | refine zae 1 rfl rfl rfl rfl rfl rfl rfl ?_ | refine zae 2 rfl rfl rfl rfl rfl rfl rfl ?_ | refine zae 3 rfl rfl rfl rfl rfl rfl rfl ?_) | ((with_reducible refine zdh ?_); refine zar (fun nb => ?_))) | refine zch ?_ | refine zci rfl ?_ | refine zcj rfl ?_)
          exact run_nil (leaves_nil (ends_pack [0, 0, 0, 1, 1, 1] rfl (ends_none rfl ⟨rfl, ⟨_, r, ad, h⟩, s', _, rfl, rfl, (by decide), hC⟩)))
        · repeat' (first | refine zck ?_ | refine zcp (by kernel_rfl) ?_ | refine zcm ?_ | refine zcn ?_ | (refine zap rfl ?_; first | refine zad rfl hmc rfl ?_ | ((with_reducible refine zct ?_); refine zaj rfl ?_) | ((with_reducible refine zcu ?_); refine zan rfl ?_) | ((with_reducible refine zcv ?_); refine zan rfl ?_) | ((with_reducible refine zcw ?_); first | refine zab 0 rfl rfl rfl ?_ | refine zab 1 rfl rfl rfl ?_ | refine zab 3 rfl rfl rfl ?_) | ((with_reducible refine zcx ?_); first | (refine reg_callO [2] hC ((f0 K).bd_union X Y) hU (by omega) (foUnion w0 p (f0 K) (f0_ok hK) X Y hX hY) rfl rfl rfl sub_nil ?_; rintro x s' m' ⟨rfl, rfl⟩ hC) | (refine zah [] (hI X) rfl rfl rfl (fun _ h => h) rfl ?_; rw [dx]) | (refine zah [] (hI Y) rfl rfl rfl (fun _ h => h) rfl ?_; rw [dy]) | refine zah [] hS rfl rfl rfl (fun _ h => h) rfl ?_) | ((with_reducible refine zcy ?_); refine zao rfl ?_) | ((with_reducible refine zcz ?_); refine zan rfl ?_) | ((with_reducible refine zda ?_); first | refine zbc rfl rfl (by omega) ?_ | refine zbd rfl rfl (by omega) ?_ | refine zbb rfl rfl ?_) | ((with_reducible refine zdb ?_); refine zbx rfl ?_) | ((with_reducible refine zdc ?_); first | refine zbu rfl ?_ | refine zbv rfl ?_) | ((with_reducible refine zdd ?_); first | refine zae 1 rfl rfl rfl rfl rfl rfl rfl ?_ | refine zae 2 rfl rfl rfl rfl rfl rfl rfl ?_ | refine zae 3 rfl rfl rfl rfl rfl rfl rfl ?_) | ((with_reducible refine zdh ?_); refine zar (fun nb => ?_))) | refine zch ?_ | refine zci rfl ?_ | refine zcj rfl ?_)
          exact run_nil (leaves_nil (ends_pack [0, 0, 0, 1, 1, 1] rfl (ends_none rfl ⟨rfl, ⟨_, r, ad, h⟩, s', _, rfl, rfl, (by decide), hC⟩)))
      · rw [if_pos ⟨cx, cy, he⟩] at hJ'
        cases hJ'
        have hU := union_join hK h cx cy he
        have px := rep_in h.vd X cx.1 cx.2
        have py := rep_in h.vd Y cy.1 cy.2
        have zx := zL_at k J px.1 px.2
        have zy := zL_at k J py.1 py.2
        have sx := sz_le h.vd cx.1 cx.2
        have sy := sz_le h.vd cy.1 cy.2
        have tx := sz_pos J (rep J X)
        have ty := sz_pos J (rep J Y)
        generalize hlh : lowHigh J (rep J X) (rep J Y) = lh at hU
        obtain ⟨lo, hi'⟩ := lh
        have hlo : 1 ≤ lo ∧ lo ≤ k ∧ 1 ≤ hi' ∧ hi' ≤ k ∧ sz J hi' + sz J lo = sz J (rep J X) + sz J (rep J Y) := by
          unfold lowHigh at hlh
          split at hlh <;> (cases hlh; omega)
        have hJn := rfJoin w0 sh' hR _ _ X Y _ _ hi' lo _ _ ux uy he zx zy (by omega) (by
          unfold lowHigh at hlh
          split at hlh
          · rename_i hc; cases hlh; exact .inr ⟨by omega, rfl, rfl⟩
          · rename_i hc; cases hlh; exact .inl ⟨by omega, rfl, rfl⟩)
        have eb := bL_join (k := k) (b := lo) (a := hi') (J := J) (show 1 ≤ lo ∧ lo ≤ k from ⟨hlo.1, hlo.2.1⟩)
        have ez := zL_join (k := k) (b := lo) (a := hi') (J := J) (show 1 ≤ hi' ∧ hi' ≤ k from ⟨hlo.2.2.1, hlo.2.2.2.1⟩)
        have ej := jL_join (b := lo) (a := hi') (J := J)
        rw [hlo.2.2.2.2] at ez
        rw [← eb, ← ez, ← ej] at hJn
        rcases c23 with c2 | c2
        · repeat' (first | refine zck ?_ | refine zcp (by kernel_rfl) ?_ | refine zcm ?_ | refine zcn ?_ | (refine zap rfl ?_; first | refine zad rfl hmc rfl ?_ | refine zae 6 rfl rfl rfl rfl rfl rfl rfl ?_ | refine zab 6 rfl rfl rfl ?_ | ((with_reducible refine zct ?_); refine zaj rfl ?_) | ((with_reducible refine zcu ?_); refine zan rfl ?_) | ((with_reducible refine zcv ?_); refine zan rfl ?_) | ((with_reducible refine zcw ?_); first | refine zab 0 rfl rfl rfl ?_ | refine zab 1 rfl rfl rfl ?_) | ((with_reducible refine zcx ?_); first | (refine reg_callO [2] hC ((f0 K).bd_union X Y) hU (by omega) (foUnion w0 p (f0 K) (f0_ok hK) X Y hX hY) rfl rfl rfl sub_nil ?_; rintro x s' m' ⟨rfl, hM⟩ hC) | (refine zah [] (hI X) rfl rfl rfl (fun _ h => h) rfl ?_; rw [dx]) | (refine zah [] (hI Y) rfl rfl rfl (fun _ h => h) rfl ?_; rw [dy]) | (refine zai [] hJn rfl rfl rfl (fun _ h => h) ?_; rintro v Γ' ⟨v', rfl, b1, d1, b2, d2, b3, d3, rfl, rfl⟩)) | ((with_reducible refine zcy ?_); refine zao rfl ?_) | ((with_reducible refine zcz ?_); refine zan rfl ?_) | ((with_reducible refine zda ?_); first | refine zbc rfl rfl (by omega) ?_ | refine zbb rfl rfl ?_) | ((with_reducible refine zdb ?_); refine zbx rfl ?_) | ((with_reducible refine zdc ?_); first | refine zbu rfl ?_ | refine zbv rfl ?_) | ((with_reducible refine zdd ?_); first | refine zae 4 rfl rfl rfl rfl rfl rfl rfl ?_ | refine zae 5 rfl rfl rfl rfl rfl rfl rfl ?_) | ((with_reducible refine zdh ?_); refine zar (fun nb => ?_))) | refine zch ?_ | refine zci rfl ?_ | refine zcj rfl ?_)
          refine run_exch 0 _ rfl LstA.ofSl rfl ?_
          refine run_exch 1 _ rfl LstA.ofSl rfl ?_
          refine run_exch 2 _ rfl LstA.ofSl rfl ?_
          exact run_nil (leaves_nil (ends_pack [3, 3, 3, 0, 0, 0] rfl (ends_none rfl ⟨rfl, ⟨_, ⟨b1, d1, b2, d2, b3, d3⟩, ad, hM⟩, s', _, rfl, rfl, (by decide), hC⟩)))
        · repeat' (first | refine zck ?_ | refine zcp (by kernel_rfl) ?_ | refine zcm ?_ | refine zcn ?_ | (refine zap rfl ?_; first | refine zad rfl hmc rfl ?_ | refine zae 6 rfl rfl rfl rfl rfl rfl rfl ?_ | refine zab 6 rfl rfl rfl ?_ | ((with_reducible refine zct ?_); refine zaj rfl ?_) | ((with_reducible refine zcu ?_); refine zan rfl ?_) | ((with_reducible refine zcv ?_); refine zan rfl ?_) | ((with_reducible refine zcw ?_); first | refine zab 0 rfl rfl rfl ?_ | refine zab 1 rfl rfl rfl ?_) | ((with_reducible refine zcx ?_); first | (refine reg_callO [2] hC ((f0 K).bd_union X Y) hU (by omega) (foUnion w0 p (f0 K) (f0_ok hK) X Y hX hY) rfl rfl rfl sub_nil ?_; rintro x s' m' ⟨rfl, hM⟩ hC) | (refine zah [] (hI X) rfl rfl rfl (fun _ h => h) rfl ?_; rw [dx]) | (refine zah [] (hI Y) rfl rfl rfl (fun _ h => h) rfl ?_; rw [dy]) | (refine zai [] hJn rfl rfl rfl (fun _ h => h) ?_; rintro v Γ' ⟨v', rfl, b1, d1, b2, d2, b3, d3, rfl, rfl⟩)) | ((with_reducible refine zcy ?_); refine zao rfl ?_) | ((with_reducible refine zcz ?_); refine zan rfl ?_) | ((with_reducible refine zda ?_); first | refine zbc rfl rfl (by omega) ?_ | refine zbd rfl rfl (by omega) ?_ | refine zbb rfl rfl ?_) | ((with_reducible refine zdb ?_); refine zbx rfl ?_) | ((with_reducible refine zdc ?_); first | refine zbu rfl ?_ | refine zbv rfl ?_) | ((with_reducible refine zdd ?_); first | refine zae 4 rfl rfl rfl rfl rfl rfl rfl ?_ | refine zae 5 rfl rfl rfl rfl rfl rfl rfl ?_) | ((with_reducible refine zdh ?_); refine zar (fun nb => ?_))) | refine zch ?_ | refine zci rfl ?_ | refine zcj rfl ?_)
          refine run_exch 0 _ rfl LstA.ofSl rfl ?_
          refine run_exch 1 _ rfl LstA.ofSl rfl ?_
          refine run_exch 2 _ rfl LstA.ofSl rfl ?_
          exact run_nil (leaves_nil (ends_pack [3, 3, 3, 0, 0, 0] rfl (ends_none rfl ⟨rfl, ⟨_, ⟨b1, d1, b2, d2, b3, d3⟩, ad, hM⟩, s', _, rfl, rfl, (by decide), hC⟩)))
    · rw [if_neg (fun h => cc ⟨h.1, h.2.1⟩)] at hJ'
      cases hJ'
      have hU := union_none (K := K) h cc
      by_cases cx : 1 ≤ X ∧ X ≤ k
      · have dx := decide_eq_true cx
        have dy := decide_eq_false (fun h => cc ⟨cx, h⟩)
        rcases c23 with c2 | c2
        · repeat' (first | refine zck ?_ | refine zcp (by kernel_rfl) ?_ | refine zcm ?_ | (refine zap rfl ?_; first | refine zad rfl hmc rfl ?_ | ((with_reducible refine zct ?_); refine zaj rfl ?_) | ((with_reducible refine zcu ?_); refine zan rfl ?_) | ((with_reducible refine zcv ?_); refine zan rfl ?_) | ((with_reducible refine zcw ?_); first | refine zab 0 rfl rfl rfl ?_ | refine zab 1 rfl rfl rfl ?_) | ((with_reducible refine zcx ?_); first | (refine reg_callO [2] hC ((f0 K).bd_union X Y) hU (by omega) (foUnion w0 p (f0 K) (f0_ok hK) X Y hX hY) rfl rfl rfl sub_nil ?_; rintro x s' m' ⟨rfl, rfl⟩ hC) | (refine zah [] (hI X) rfl rfl rfl (fun _ h => h) rfl ?_; rw [dx]) | (refine zah [] (hI Y) rfl rfl rfl (fun _ h => h) rfl ?_; rw [dy])) | ((with_reducible refine zcy ?_); refine zao rfl ?_) | ((with_reducible refine zcz ?_); refine zan rfl ?_) | ((with_reducible refine zda ?_); refine zbc rfl rfl (by omega) ?_) | ((with_reducible refine zdb ?_); refine zbx rfl ?_) | ((with_reducible refine zdc ?_); first | refine zbu rfl ?_ | refine zbv rfl ?_) | ((with_reducible refine zdd ?_); refine zae 2 rfl rfl rfl rfl rfl rfl rfl ?_)) | refine zch ?_ | refine zci rfl ?_)
          exact run_ret (leaves_nil (ends_pack [0, 0, 0, 0, 0, 0] rfl (ends_none rfl ⟨rfl, ⟨_, r, ad, h⟩, s', _, rfl, rfl, (by decide), hC⟩)))
        · repeat' (first | refine zck ?_ | refine zcp (by kernel_rfl) ?_ | (refine zap rfl ?_; first | refine zad rfl hmc rfl ?_ | ((with_reducible refine zct ?_); refine zaj rfl ?_) | ((with_reducible refine zcu ?_); refine zan rfl ?_) | ((with_reducible refine zcv ?_); refine zan rfl ?_) | ((with_reducible refine zcw ?_); first | refine zab 0 rfl rfl rfl ?_ | refine zab 1 rfl rfl rfl ?_) | ((with_reducible refine zcx ?_); first | (refine reg_callO [2] hC ((f0 K).bd_union X Y) hU (by omega) (foUnion w0 p (f0 K) (f0_ok hK) X Y hX hY) rfl rfl rfl sub_nil ?_; rintro x s' m' ⟨rfl, rfl⟩ hC) | (refine zah [] (hI X) rfl rfl rfl (fun _ h => h) rfl ?_; rw [dx]) | (refine zah [] (hI Y) rfl rfl rfl (fun _ h => h) rfl ?_; rw [dy])) | ((with_reducible refine zcy ?_); refine zao rfl ?_) | ((with_reducible refine zcz ?_); refine zan rfl ?_) | ((with_reducible refine zda ?_); first | refine zbc rfl rfl (by omega) ?_ | refine zbd rfl rfl (by omega) ?_) | ((with_reducible refine zdb ?_); refine zbx rfl ?_) | ((with_reducible refine zdc ?_); first | refine zbu rfl ?_ | refine zbv rfl ?_) | ((with_reducible refine zdd ?_); refine zae 2 rfl rfl rfl rfl rfl rfl rfl ?_)) | refine zch ?_ | refine zci rfl ?_ | refine zcj rfl ?_)
          exact run_ret (leaves_nil (ends_pack [0, 0, 0, 0, 0, 0] rfl (ends_none rfl ⟨rfl, ⟨_, r, ad, h⟩, s', _, rfl, rfl, (by decide), hC⟩)))
      · have dx := decide_eq_false cx
        rcases c23 with c2 | c2
        · repeat' (first | refine zck ?_ | refine zcp (by kernel_rfl) ?_ | refine zcm ?_ | (refine zap rfl ?_; first | refine zad rfl hmc rfl ?_ | ((with_reducible refine zct ?_); first | refine zaj rfl ?_ | refine zak rfl ?_) | ((with_reducible refine zcu ?_); refine zan rfl ?_) | ((with_reducible refine zcv ?_); refine zan rfl ?_) | ((with_reducible refine zcw ?_); first | refine zab 0 rfl rfl rfl ?_ | refine zab 1 rfl rfl rfl ?_) | ((with_reducible refine zcx ?_); first | (refine reg_callO [2] hC ((f0 K).bd_union X Y) hU (by omega) (foUnion w0 p (f0 K) (f0_ok hK) X Y hX hY) rfl rfl rfl sub_nil ?_; rintro x s' m' ⟨rfl, rfl⟩ hC) | (refine zah [] (hI X) rfl rfl rfl (fun _ h => h) rfl ?_; rw [dx])) | ((with_reducible refine zcy ?_); refine zao rfl ?_) | ((with_reducible refine zcz ?_); refine zan rfl ?_) | ((with_reducible refine zda ?_); refine zbc rfl rfl (by omega) ?_) | ((with_reducible refine zdb ?_); refine zbx rfl ?_) | ((with_reducible refine zdc ?_); refine zbu rfl ?_) | ((with_reducible refine zdd ?_); refine zae 2 rfl rfl rfl rfl rfl rfl rfl ?_)) | refine zch ?_ | refine zci rfl ?_)
          exact run_ret (leaves_nil (ends_pack [0, 0, 0, 0, 0, 0] rfl (ends_none rfl ⟨rfl, ⟨_, r, ad, h⟩, s', _, rfl, rfl, (by decide), hC⟩)))
        · repeat' (first | refine zck ?_ | refine zcp (by kernel_rfl) ?_ | (refine zap rfl ?_; first | refine zad rfl hmc rfl ?_ | ((with_reducible refine zct ?_); first | refine zaj rfl ?_ | refine zak rfl ?_) | ((with_reducible refine zcu ?_); refine zan rfl ?_) | ((with_reducible refine zcv ?_); refine zan rfl ?_) | ((with_reducible refine zcw ?_); first | refine zab 0 rfl rfl rfl ?_ | refine zab 1 rfl rfl rfl ?_) | ((with_reducible refine zcx ?_); first | (refine reg_callO [2] hC ((f0 K).bd_union X Y) hU (by omega) (foUnion w0 p (f0 K) (f0_ok hK) X Y hX hY) rfl rfl rfl sub_nil ?_; rintro x s' m' ⟨rfl, rfl⟩ hC) | (refine zah [] (hI X) rfl rfl rfl (fun _ h => h) rfl ?_; rw [dx])) | ((with_reducible refine zcy ?_); refine zao rfl ?_) | ((with_reducible refine zcz ?_); refine zan rfl ?_) | ((with_reducible refine zda ?_); first | refine zbc rfl rfl (by omega) ?_ | refine zbd rfl rfl (by omega) ?_) | ((with_reducible refine zdb ?_); refine zbx rfl ?_) | ((with_reducible refine zdc ?_); refine zbu rfl ?_) | ((with_reducible refine zdd ?_); refine zae 2 rfl rfl rfl rfl rfl rfl rfl ?_)) | refine zch ?_ | refine zci rfl ?_ | refine zcj rfl ?_)
          exact run_ret (leaves_nil (ends_pack [0, 0, 0, 0, 0, 0] rfl (ends_none rfl ⟨rfl, ⟨_, r, ad, h⟩, s', _, rfl, rfl, (by decide), hC⟩)))
  rw [if_neg c23] at hJ'
  by_cases c4 : d % 6 = 4
  · rw [if_pos c4] at hJ'
    cases hJ'
    cases J with
    | nil =>
      have hU := undo_none h
      have hS := rfUndo0 w0 sh' hR rfl
      repeat' (first | refine zck ?_ | refine zcp (by kernel_rfl) ?_ | refine zcn ?_ | (refine zap rfl ?_; first | ((with_reducible refine zct ?_); refine zaj rfl ?_) | ((with_reducible refine zcu ?_); refine zan rfl ?_) | ((with_reducible refine zcv ?_); refine zan rfl ?_) | ((with_reducible refine zcw ?_); first | refine zab 0 rfl rfl rfl ?_ | refine zab 1 rfl rfl rfl ?_ | refine zab 3 rfl rfl rfl ?_) | ((with_reducible refine zcx ?_); first | (refine reg_callO [2] hC (f0 K).bd_undo hU (by omega) (foUndo w0 p (f0 K) (f0_ok hK)) rfl rfl rfl sub_nil ?_; rintro x s' m' ⟨rfl, rfl⟩ hC) | refine zah [] hS rfl rfl rfl (fun _ h => h) rfl ?_) | ((with_reducible refine zcy ?_); refine zao rfl ?_) | ((with_reducible refine zcz ?_); refine zan rfl ?_) | ((with_reducible refine zda ?_); first | refine zbc rfl rfl (by omega) ?_ | refine zbd rfl rfl (by omega) ?_ | refine zbb rfl rfl ?_) | ((with_reducible refine zdc ?_); refine zbu rfl ?_) | ((with_reducible refine zdd ?_); first | refine zae 1 rfl rfl rfl rfl rfl rfl rfl ?_ | refine zae 2 rfl rfl rfl rfl rfl rfl rfl ?_ | refine zae 3 rfl rfl rfl rfl rfl rfl rfl ?_) | ((with_reducible refine zdh ?_); refine zar (fun nb => ?_))) | refine zch ?_ | refine zci rfl ?_ | refine zcj rfl ?_)
      exact run_nil (leaves_nil (ends_pack [0, 0, 0, 1, 1, 1] rfl (ends_none rfl ⟨rfl, ⟨_, r, ad, h⟩, s', _, rfl, rfl, (by decide), hC⟩)))
    | cons ba J =>
      obtain ⟨b, a⟩ := ba
      have hU := undo_ok hK h
      obtain ⟨v1, ra, rb, hne, ha, hb, hs⟩ := id h.vd
      have hz1 := zL_at k ((b, a) :: J) ha.1 ha.2
      have hz2 := zL_at k ((b, a) :: J) hb.1 hb.2
      have hb1 := bL_at k ((b, a) :: J) hb.1 hb.2
      have e1 : par ((b, a) :: J) b = a := by simp only [par, if_true]
      rw [e1] at hb1
      have hq : ∀ x, 1 ≤ x → x ≤ (k : Int) → par ((b, a) :: J) x = 0 ∨ x = b → 1 ≤ sz ((b, a) :: J) x ∧ sz ((b, a) :: J) x ≤ k := by
        intro x x1 x2 hx
        refine ⟨sz_pos _ _, ?_⟩
        rcases hx with hx | rfl
        · have := sz_le h.vd x1 x2
          rw [root_rep h.vd x hx] at this
          exact this
        · simp only [sz]
          rw [if_neg (Ne.symm hne)]
          have := sz_le v1 x1 x2
          rw [root_rep v1 x rb] at this
          exact this
      have hp : par ((b, a) :: J) a = 0 := by simp only [par]; rw [if_neg hne]; exact ra
      have q1 := hq a ha.1 ha.2 (.inl hp)
      have q2 := hq b hb.1 hb.2 (.inr rfl)
      have hjl : (jL ((b, a) :: J)).length = J.length + 1 := by simp [jL]
      have hjb : (jL ((b, a) :: J))[J.length]? = some b := by simp [jL]
      have hS := rfUndo w0 sh' hR b a _ _ J.length hjl hjb ⟨hb.1, ha.1⟩ hb1 hz1 hz2 (by omega)
      have ej : (jL ((b, a) :: J)).take J.length = jL J := by rw [jL_join]; rw [List.take_left' (by simp [jL])]
      rw [← bL_undo h.vd, ← zL_undo h.vd, ej] at hS
      repeat' (first | refine zck ?_ | refine zcp (by kernel_rfl) ?_ | refine zcn ?_ | (refine zap rfl ?_; first | refine zae 6 rfl rfl rfl rfl rfl rfl rfl ?_ | refine zab 6 rfl rfl rfl ?_ | ((with_reducible refine zct ?_); refine zaj rfl ?_) | ((with_reducible refine zcu ?_); refine zan rfl ?_) | ((with_reducible refine zcv ?_); refine zan rfl ?_) | ((with_reducible refine zcw ?_); first | refine zab 0 rfl rfl rfl ?_ | refine zab 1 rfl rfl rfl ?_) | ((with_reducible refine zcx ?_); first | (refine reg_callO [2] hC (f0 K).bd_undo hU (by omega) (foUndo w0 p (f0 K) (f0_ok hK)) rfl rfl rfl sub_nil ?_; rintro x s' m' ⟨rfl, hM⟩ hC) | (refine zai [] hS rfl rfl rfl (fun _ h => h) ?_; rintro v Γ' ⟨v', rfl, b1, d1, b2, d2, b3, d3, rfl, rfl⟩)) | ((with_reducible refine zcy ?_); refine zao rfl ?_) | ((with_reducible refine zcz ?_); refine zan rfl ?_) | ((with_reducible refine zda ?_); first | refine zbc rfl rfl (by omega) ?_ | refine zbd rfl rfl (by omega) ?_ | refine zbb rfl rfl ?_) | ((with_reducible refine zdc ?_); refine zbu rfl ?_) | ((with_reducible refine zdd ?_); first | refine zae 4 rfl rfl rfl rfl rfl rfl rfl ?_ | refine zae 5 rfl rfl rfl rfl rfl rfl rfl ?_) | ((with_reducible refine zdh ?_); refine zar (fun nb => ?_))) | refine zch ?_ | refine zci rfl ?_ | refine zcj rfl ?_)
      refine run_exch 0 _ rfl LstA.ofSl rfl ?_
      refine run_exch 1 _ rfl LstA.ofSl rfl ?_
      refine run_exch 2 _ rfl LstA.ofSl rfl ?_
      exact run_nil (leaves_nil (ends_pack [3, 3, 3, 0, 0, 0] rfl (ends_none rfl ⟨rfl, ⟨_, ⟨b1, d1, b2, d2, b3, d3⟩, ad, hM⟩, s', _, rfl, rfl, (by decide), hC⟩)))
  rw [if_neg c4] at hJ'
  by_cases c5 : d % 6 = 5
  · rw [if_pos c5] at hJ'
    cases hJ'
    repeat' (first | refine zck ?_ | refine zcp (by kernel_rfl) ?_ | refine zcn ?_ | (refine zap rfl ?_; first | refine zad rfl hmc rfl ?_ | ((with_reducible refine zct ?_); refine zaj rfl ?_) | ((with_reducible refine zcu ?_); refine zan rfl ?_) | ((with_reducible refine zcv ?_); refine zan rfl ?_) | ((with_reducible refine zcw ?_); refine zab 0 rfl rfl rfl ?_) | ((with_reducible refine zcx ?_); first | (refine zai [2] (asks_spec w0 sh' p wb hK hR s s 0 (by decide) hC h X Y hX hY) rfl rfl rfl (fun _ h => h) ?_; rintro v Γ' ⟨s', rfl, rfl, hC⟩) | (refine zai [0] (writes_spec w0 p s' (by have := hC.few; omega)) rfl rfl rfl sub_nil ?_; rintro v Γ' ⟨wa, wcap, rfl, rfl⟩; have hw0 : s'.writes.length = 0 := Sp.writes_len0.2 (List.length_eq_zero_iff.1 (by have := hC.few; omega))) | refine zce rfl ?_) | ((with_reducible refine zcy ?_); refine zao rfl ?_) | ((with_reducible refine zda ?_); first | refine zbc rfl rfl (by omega) ?_ | refine zbd rfl rfl (by omega) ?_) | ((with_reducible refine zdc ?_); refine zbu rfl ?_) | ((with_reducible refine zdd ?_); refine zae 3 rfl rfl rfl rfl rfl rfl rfl ?_)) | refine zch ?_ | refine zci rfl ?_ | refine zcj rfl ?_)
    exact run_nil (leaves_nil (ends_pack [0, 1, 1, 1, 1, 1] rfl (ends_none rfl ⟨rfl, ⟨m, r, ad, h⟩, s', 0, rfl, rfl, by decide, hC⟩)))
  · rw [if_neg c5] at hJ'
    have hMk := rfMake w0 sh' hR
    rw [← bL_more h.vd, ← zL_more h.vd] at hMk
    have hbl1 : ((bL (k + 1) J).length : Int) = (k : Int) + 1 := by rw [bL_len]; omega
    have hN := rfNodes w0 ((bL (k + 1) J).length : Int) (by omega)
    have eN : (((bL (k + 1) J).length : Int) + 1) / 2 + ((((bL (k + 1) J).length : Int) + 1) / 2 + 7) / 8 = (cN (k + 1) : Nat) := by rw [hbl1]; unfold cN; omega
    rw [eN] at hN
    by_cases cm : k < 64 ∧ (cN (k + 1) : Int) ≤ K
    · rw [if_pos cm] at hJ'
      cases hJ'
      have hU := make_ok hK h cm.1 cm.2
      repeat (first | refine zck ?_ | refine zcl ?_ | refine zcm ?_ | refine zcn ?_)
      first | refine zcp (by kernel_rfl) ?_ | refine zcq PP_mixed (by kernel_rfl) (by kernel_rfl) ?_
      repeat' (refine zap rfl ?_; first | ((with_reducible refine zcv ?_); refine zan rfl ?_) | ((with_reducible refine zda ?_); refine zbd rfl rfl (by omega) ?_))
      all_goals refine zch ?_
      all_goals repeat (first | refine zck ?_ | refine zcl ?_ | refine zcm ?_ | refine zcn ?_)
      refine zcj rfl ?_
      repeat (first | refine zck ?_ | refine zcl ?_ | refine zcm ?_ | refine zcn ?_)
      first | refine zcp (by kernel_rfl) ?_ | refine zcq PP_mixed (by kernel_rfl) (by kernel_rfl) ?_
      repeat' (refine zap rfl ?_; first | ((with_reducible refine zcv ?_); refine zan rfl ?_) | ((with_reducible refine zda ?_); refine zbd rfl rfl (by omega) ?_))
      all_goals refine zch ?_
      all_goals repeat (first | refine zck ?_ | refine zcl ?_ | refine zcm ?_ | refine zcn ?_)
      refine zcj rfl ?_
      repeat (first | refine zck ?_ | refine zcl ?_ | refine zcm ?_ | refine zcn ?_)
      first | refine zcp (by kernel_rfl) ?_ | refine zcq PP_mixed (by kernel_rfl) (by kernel_rfl) ?_
      repeat' (refine zap rfl ?_; first | ((with_reducible refine zcv ?_); refine zan rfl ?_) | ((with_reducible refine zda ?_); refine zbd rfl rfl (by omega) ?_))
      all_goals refine zch ?_
      all_goals repeat (first | refine zck ?_ | refine zcl ?_ | refine zcm ?_ | refine zcn ?_)
      refine zcj rfl ?_
      repeat (first | refine zck ?_ | refine zcl ?_ | refine zcm ?_ | refine zcn ?_)
      first | refine zcp (by kernel_rfl) ?_ | refine zcq PP_mixed (by kernel_rfl) (by kernel_rfl) ?_
      repeat' (refine zap rfl ?_; first | ((with_reducible refine zcv ?_); refine zan rfl ?_) | ((with_reducible refine zda ?_); refine zbd rfl rfl (by omega) ?_))
      all_goals refine zch ?_
      all_goals repeat (first | refine zck ?_ | refine zcl ?_ | refine zcm ?_ | refine zcn ?_)
      refine zcj rfl ?_
      repeat (first | refine zck ?_ | refine zcl ?_ | refine zcm ?_ | refine zcn ?_)
      first | refine zcp (by kernel_rfl) ?_ | refine zcq PP_mixed (by kernel_rfl) (by kernel_rfl) ?_
      repeat' (refine zap rfl ?_; first | ((with_reducible refine zcu ?_); refine zan rfl ?_) | ((with_reducible refine zcv ?_); refine zan rfl ?_) | ((with_reducible refine zcw ?_); refine zab 0 rfl rfl rfl ?_) | ((with_reducible refine zcx ?_); (refine reg_callO [2] hC (f0 K).bd_make hU (by omega) (foMake w0 p (f0 K) (f0_ok hK)) rfl rfl rfl sub_nil ?_; rintro x s' m' ⟨rfl, hM⟩ hC)) | ((with_reducible refine zcy ?_); refine zao rfl ?_) | ((with_reducible refine zcz ?_); refine zan rfl ?_))
      all_goals refine zch ?_
      all_goals repeat (first | refine zck ?_ | refine zcl ?_ | refine zcm ?_ | refine zcn ?_)
      repeat (first | refine zck ?_ | refine zcl ?_ | refine zcm ?_ | refine zcn ?_)
      first | refine zcp (by kernel_rfl) ?_ | refine zcq PP_mixed (by kernel_rfl) (by kernel_rfl) ?_
      repeat' (refine zap rfl ?_; first | refine zae 6 rfl rfl rfl rfl rfl rfl rfl ?_ | ((with_reducible refine zcw ?_); refine zab 1 rfl rfl rfl ?_) | ((with_reducible refine zcx ?_); (refine zai [] hMk rfl rfl rfl (fun _ h => h) ?_; rintro v Γ' ⟨b1, d1, b2, d2, b3, d3, rfl, rfl⟩)) | ((with_reducible refine zcy ?_); refine zao rfl ?_) | ((with_reducible refine zdh ?_); refine zar (fun nb => ?_)))
      all_goals refine zch ?_
      all_goals repeat (first | refine zck ?_ | refine zcl ?_ | refine zcm ?_ | refine zcn ?_)
      refine run_share [6] rfl ?_
      refine run_bind_eq (l' := [(2, ptr xb), (3, ptr ob), (13, .int .i64 ((k : Int) + 1)), (14, .int .i64 0), (15, ptr nb), (43, .bool false)]) (Γ' := rP b1 d1 b2 d2 b3 d3 (bL (k + 1) J) (zL (k + 1) J) (jL J) ++ [SpaceA p s', okB ob true, stB xb wb K r k J]) ?_ (fun junk => ?_)
      · refine run_share_keep [4] rfl ?_
        repeat' (first | refine zcq PP_mixed (by kernel_rfl) (by kernel_rfl) ?_ | (refine zap rfl ?_; first | ((with_reducible refine zct ?_); refine zaj rfl ?_) | ((with_reducible refine zcu ?_); refine zan rfl ?_) | ((with_reducible refine zcw ?_); first | refine zaa 0 rfl rfl rfl ?_ | refine zaa 1 rfl rfl rfl ?_) | ((with_reducible refine zcx ?_); first | refine zah [] hN rfl rfl rfl sub_nil rfl ?_ | refine zce rfl ?_) | ((with_reducible refine zcy ?_); refine zao rfl ?_) | ((with_reducible refine zda ?_); refine zbl rfl rfl (by omega) ?_) | ((with_reducible refine zdc ?_); refine zbv rfl ?_)) | refine zch ?_)
        exact run_nil (show _ ∧ _ ∧ _ from ⟨rfl, ⟨rfl, rfl, rfl, rfl, rfl, rfl, trivial⟩, rfl⟩)
      obtain ⟨ad', hM⟩ := hM
      repeat' (first | refine zck ?_ | refine zcp (by kernel_rfl) ?_ | refine zcm ?_ | refine zcn ?_ | (refine zap rfl ?_; first | refine zae 5 rfl rfl rfl rfl rfl rfl rfl ?_ | ((with_reducible refine zct ?_); refine zaj rfl ?_) | ((with_reducible refine zcu ?_); refine zan rfl ?_) | ((with_reducible refine zcw ?_); refine zaa 0 rfl rfl rfl ?_) | ((with_reducible refine zcx ?_); refine zce rfl ?_) | ((with_reducible refine zcy ?_); refine zao rfl ?_) | ((with_reducible refine zda ?_); refine zbc rfl rfl (by omega) ?_) | ((with_reducible refine zdc ?_); refine zbu rfl ?_) | ((with_reducible refine zdd ?_); refine zae 4 rfl rfl rfl rfl rfl rfl rfl ?_)) | refine zch ?_ | refine zcj rfl ?_)
      refine run_exch 0 _ rfl LstA.ofSl rfl ?_
      refine run_exch 1 _ rfl LstA.ofSl rfl ?_
      refine run_exch 2 _ rfl LstA.ofSl rfl ?_
      exact run_nil (leaves_nil (ends_pack [3, 4, 3, 0, 0, 0] rfl (ends_none rfl ⟨rfl, ⟨_, ⟨b1, d1, b2, d2, b3, d3⟩, ad', hM⟩, s', _, rfl, rfl, (by decide), hC⟩)))
    · rw [if_neg cm] at hJ'
      cases hJ'
      have hk64 : k = 64 ∨ K < (cN (k + 1) : Int) := by omega
      have hU := make_full hK h hk64
      repeat (first | refine zck ?_ | refine zcl ?_ | refine zcm ?_ | refine zcn ?_)
      first | refine zcp (by kernel_rfl) ?_ | refine zcq PP_mixed (by kernel_rfl) (by kernel_rfl) ?_
      repeat' (refine zap rfl ?_; first | ((with_reducible refine zcv ?_); refine zan rfl ?_) | ((with_reducible refine zda ?_); refine zbd rfl rfl (by omega) ?_))
      all_goals refine zch ?_
      all_goals repeat (first | refine zck ?_ | refine zcl ?_ | refine zcm ?_ | refine zcn ?_)
      refine zcj rfl ?_
      repeat (first | refine zck ?_ | refine zcl ?_ | refine zcm ?_ | refine zcn ?_)
      first | refine zcp (by kernel_rfl) ?_ | refine zcq PP_mixed (by kernel_rfl) (by kernel_rfl) ?_
      repeat' (refine zap rfl ?_; first | ((with_reducible refine zcv ?_); refine zan rfl ?_) | ((with_reducible refine zda ?_); refine zbd rfl rfl (by omega) ?_))
      all_goals refine zch ?_
      all_goals repeat (first | refine zck ?_ | refine zcl ?_ | refine zcm ?_ | refine zcn ?_)
      refine zcj rfl ?_
      repeat (first | refine zck ?_ | refine zcl ?_ | refine zcm ?_ | refine zcn ?_)
      first | refine zcp (by kernel_rfl) ?_ | refine zcq PP_mixed (by kernel_rfl) (by kernel_rfl) ?_
      repeat' (refine zap rfl ?_; first | ((with_reducible refine zcv ?_); refine zan rfl ?_) | ((with_reducible refine zda ?_); refine zbd rfl rfl (by omega) ?_))
      all_goals refine zch ?_
      all_goals repeat (first | refine zck ?_ | refine zcl ?_ | refine zcm ?_ | refine zcn ?_)
      refine zcj rfl ?_
      repeat (first | refine zck ?_ | refine zcl ?_ | refine zcm ?_ | refine zcn ?_)
      first | refine zcp (by kernel_rfl) ?_ | refine zcq PP_mixed (by kernel_rfl) (by kernel_rfl) ?_
      repeat' (refine zap rfl ?_; first | ((with_reducible refine zcv ?_); refine zan rfl ?_) | ((with_reducible refine zda ?_); refine zbd rfl rfl (by omega) ?_))
      all_goals refine zch ?_
      all_goals repeat (first | refine zck ?_ | refine zcl ?_ | refine zcm ?_ | refine zcn ?_)
      refine zcj rfl ?_
      repeat (first | refine zck ?_ | refine zcl ?_ | refine zcm ?_ | refine zcn ?_)
      first | refine zcp (by kernel_rfl) ?_ | refine zcq PP_mixed (by kernel_rfl) (by kernel_rfl) ?_
      repeat' (refine zap rfl ?_; first | ((with_reducible refine zcu ?_); refine zan rfl ?_) | ((with_reducible refine zcv ?_); refine zan rfl ?_) | ((with_reducible refine zcw ?_); refine zab 0 rfl rfl rfl ?_) | ((with_reducible refine zcx ?_); (refine reg_callO [2] hC (f0 K).bd_make hU (by omega) (foMake w0 p (f0 K) (f0_ok hK)) rfl rfl rfl sub_nil ?_; rintro x s' m' ⟨rfl, rfl⟩ hC)) | ((with_reducible refine zcy ?_); refine zao rfl ?_) | ((with_reducible refine zcz ?_); refine zan rfl ?_))
      all_goals refine zch ?_
      all_goals repeat (first | refine zck ?_ | refine zcl ?_ | refine zcm ?_ | refine zcn ?_)
      repeat (first | refine zck ?_ | refine zcl ?_ | refine zcm ?_ | refine zcn ?_)
      first | refine zcp (by kernel_rfl) ?_ | refine zcq PP_mixed (by kernel_rfl) (by kernel_rfl) ?_
      repeat' (refine zap rfl ?_; first | refine zae 6 rfl rfl rfl rfl rfl rfl rfl ?_ | ((with_reducible refine zcw ?_); refine zab 1 rfl rfl rfl ?_) | ((with_reducible refine zcx ?_); (refine zai [] hMk rfl rfl rfl (fun _ h => h) ?_; rintro v Γ' ⟨b1, d1, b2, d2, b3, d3, rfl, rfl⟩)) | ((with_reducible refine zcy ?_); refine zao rfl ?_) | ((with_reducible refine zdh ?_); refine zar (fun nb => ?_)))
      all_goals refine zch ?_
      all_goals repeat (first | refine zck ?_ | refine zcl ?_ | refine zcm ?_ | refine zcn ?_)
      refine run_share [6] rfl ?_
      refine run_bind_eq (l' := [(2, ptr xb), (3, ptr ob), (13, .int .i64 0), (14, .int .i64 9), (15, ptr nb), (43, .bool true)]) (Γ' := rP b1 d1 b2 d2 b3 d3 (bL (k + 1) J) (zL (k + 1) J) (jL J) ++ [SpaceA p s', okB ob true, stB xb wb K r k J]) ?_ (fun junk => ?_)
      · refine run_share_keep [4] rfl ?_
        by_cases hk0 : k = 64
        · repeat' (first | refine zcq PP_mixed (by kernel_rfl) (by kernel_rfl) ?_ | (refine zap rfl ?_; first | ((with_reducible refine zct ?_); refine zak rfl ?_) | ((with_reducible refine zcu ?_); refine zan rfl ?_) | ((with_reducible refine zcw ?_); refine zaa 1 rfl rfl rfl ?_) | ((with_reducible refine zcx ?_); refine zce rfl ?_) | ((with_reducible refine zcy ?_); refine zao rfl ?_) | ((with_reducible refine zda ?_); refine zbk rfl rfl (by omega) ?_) | ((with_reducible refine zdc ?_); refine zbu rfl ?_)) | refine zch ?_)
          exact run_nil (show _ ∧ _ ∧ _ from ⟨rfl, ⟨rfl, rfl, rfl, rfl, rfl, rfl, trivial⟩, rfl⟩)
        · repeat' (first | refine zcq PP_mixed (by kernel_rfl) (by kernel_rfl) ?_ | (refine zap rfl ?_; first | ((with_reducible refine zct ?_); refine zaj rfl ?_) | ((with_reducible refine zcu ?_); refine zan rfl ?_) | ((with_reducible refine zcw ?_); first | refine zaa 0 rfl rfl rfl ?_ | refine zaa 1 rfl rfl rfl ?_) | ((with_reducible refine zcx ?_); first | refine zah [] hN rfl rfl rfl sub_nil rfl ?_ | refine zce rfl ?_) | ((with_reducible refine zcy ?_); refine zao rfl ?_) | ((with_reducible refine zda ?_); first | refine zbk rfl rfl (by omega) ?_ | refine zbl rfl rfl (by omega) ?_) | ((with_reducible refine zdc ?_); refine zbv rfl ?_)) | refine zch ?_)
          exact run_nil (show _ ∧ _ ∧ _ from ⟨rfl, ⟨rfl, rfl, rfl, rfl, rfl, rfl, trivial⟩, rfl⟩)
      repeat' (first | refine zck ?_ | refine zcp (by kernel_rfl) ?_ | (refine zap rfl ?_; first | ((with_reducible refine zct ?_); refine zaj rfl ?_) | ((with_reducible refine zcu ?_); refine zan rfl ?_) | ((with_reducible refine zda ?_); refine zbc rfl rfl (by omega) ?_) | ((with_reducible refine zdc ?_); refine zbu rfl ?_) | ((with_reducible refine zdd ?_); refine zae 4 rfl rfl rfl rfl rfl rfl rfl ?_)) | refine zch ?_ | refine zci rfl ?_)
      exact run_ret (leaves_nil (ends_pack [3, 4, 3, 3, 3, 3] rfl (ends_none rfl ⟨rfl, ⟨_, r, ad, h⟩, s', _, rfl, rfl, (by decide), hC⟩)))
end
end Go.Proofs.Ytpcnbaddkblbhaa

/- The law's step. -/
namespace Go.Vc
/-- Resources that go in and come out packed. -/
theorem Fn.unpack {P : Program} {w0 : World} {sh : Shared} {f : FuncId} {args : List Value} {L : List Asn} {R R' : Value → List Asn → Prop} (h : Fn P w0 sh f args [StarsA L] R)
    (hR : ∀ v Γ, R v Γ → ∃ A L', Γ = [A, StarsA L'] ∧ R' v (A :: L')) : Fn P w0 sh f args L R' :=
  ⟨h.enters, fun hF w hsh ⟨g, h1, h2, h3⟩ => (h.calls hF w hsh ⟨g, Stars.one.2 h1, h2, h3⟩).mono fun e w' ⟨v, Γ', e1, e2, e3⟩ => by
    obtain ⟨A, L', rfl, e4⟩ := hR v Γ' e2
    obtain ⟨g, ⟨g1, g2, d1, d2, d3, d4⟩, g3, g4⟩ := e3
    exact ⟨v, _, e1, e4, g, ⟨g1, g2, d1, d2, d3, Stars.one.1 d4⟩, g3, g4⟩⟩
theorem sub_swap {a b : Nat × Obj} {sh : Shared} : ∀ p ∈ a :: b :: sh, p ∈ b :: a :: sh := fun p hp => by
  simp only [List.mem_cons] at hp ⊢
  rcases hp with h | h | h
  · exact .inr (.inl h)
  · exact .inl h
  · exact .inr (.inr h)
end Go.Vc
namespace Go.Proofs.Ytpcnbaddkblbhaa
open Go.Vc Sim
set_option maxHeartbeats 8000000
abbrev stR (wb : Nat) (K : Int) (r : Rl) (k : Nat) (J : Jn) : Value := stV wb K r.a1 r.c1 r.a2 r.c2 r.a3 r.c3 k J
abbrev wdA (wb : Nat) (kn : List (Int × Wd)) : Asn := pt wb (mapI (knM kn))
section
variable {K : Int} {m : Int → Int} {k : Nat} {J : Jn} {ad : Nat → Int}
theorem step_spec (w0 : World) (sh : Shared) (wb : Nat) (hK : 0 ≤ K ∧ K ≤ 38) (r : Rl) (kn : List (Int × Wd)) (T : Int) (hT : T ≤ 1000000) (hW : WM 368 T kn m) (h : Mm K m k (nC k) (tC k) J ad) (d X Y : Int) (hd : 0 ≤ d ∧ d ≤ 255) (hX : X ≤ 9223372036854775807) (hY : Y ≤ 9223372036854775807) (k' : Nat) (J' : Jn) (hJ' : stepJ K k J d X Y = (k', J')) :
    Vc.Fn PP w0 sh 35 [stR wb K r k J, .agg (List.toArray [.int .u8 d, .int .i64 X, .int .i64 Y])] (wdA wb kn :: rl3 r k J)
      (fun v Γ => ∃ (st : Fs K k' J') (nb : Nat) (kn2 : List (Int × Wd)), v = .tuple #[stR nb K st.r k' J', .bool true] ∧ Γ = wdA nb kn2 :: rl3 st.r k' J' ∧ WM 368 (T + 1) kn2 st.m) := by
  refine fn_of_run en35 fn35 rfl rfl rfl ?_
  refine run_share [0] rfl ?_
  repeat (first | refine zck ?_ | refine zcl ?_ | refine zcm ?_ | refine zcn ?_)
  first | refine zcp (by kernel_rfl) ?_ | refine zcq PP_mixed (by kernel_rfl) (by kernel_rfl) ?_
  repeat' (refine zap rfl ?_; first | ((with_reducible refine zcv ?_); refine zan rfl ?_) | ((with_reducible refine zdg ?_); first | refine zaq (cs := [_, _, _]) rfl (fun nb => ?_) | refine zaq (cs := [_, _, _, _, _, _, _, _]) rfl (fun nb => ?_)) | ((with_reducible refine zdh ?_); refine zar (fun nb => ?_)))
  all_goals refine zch ?_
  all_goals repeat (first | refine zck ?_ | refine zcl ?_ | refine zcm ?_ | refine zcn ?_)
  rename_i xb cb
  revert nb; intro rb
  refine run_share [4] rfl ?_
  repeat (first | refine zck ?_ | refine zcl ?_ | refine zcm ?_ | refine zcn ?_)
  first | refine zcp (by kernel_rfl) ?_ | refine zcq PP_mixed (by kernel_rfl) (by kernel_rfl) ?_
  repeat' (refine zap rfl ?_; first | ((with_reducible refine zdd ?_); refine zae 5 rfl rfl rfl rfl rfl rfl rfl ?_) | ((with_reducible refine zdh ?_); refine zar (fun nb => ?_)))
  all_goals refine zch ?_
  all_goals repeat (first | refine zck ?_ | refine zcl ?_ | refine zcm ?_ | refine zcn ?_)
  revert nb; intro ob
  have hD := (done_mem (σ := Fs K k' J') w0 ((cb, clC d X Y) :: sh) wb kn 368 T m hT hW 54 (List.toArray [ptr cb, ptr xb, ptr ob]) (StarsA (stB xb wb K r k J :: okB ob true :: rl3 r k J)) (fun st => StarsA (stB xb wb K st.r k' J' :: okB ob true :: rl3 st.r k' J')) (fun st => st.m)
    (fun p s hC _ => (step1_spec w0 _ p cb xb ob wb hK r s hC h d X Y hd hX hY (.head _) k' J' hJ').mono (fun v Γ ⟨st, s', j, e1, e2, e3, e4⟩ => ⟨st, s', j, e1, e2, e3, e4⟩))).unpack
    (R' := fun v Γ => ∃ (st : Fs K k' J') (nb : Nat) (a : Option Addr) (len c : Nat) (kn2 : List (Int × Wd)), v = .tuple #[.map (some nb), .slice a len c, .bool true] ∧ Γ = wdA nb kn2 :: stB xb wb K st.r k' J' :: okB ob true :: rl3 st.r k' J' ∧ WM 368 (T + 1) kn2 st.m)
    (fun v Γ ⟨st, nb, a, len, c, kn2, e1, e2, e3⟩ => ⟨_, _, e2, st, nb, a, len, c, kn2, e1, rfl, e3⟩)
  repeat (first | refine zck ?_ | refine zcl ?_ | refine zcm ?_ | refine zcn ?_)
  first | refine zcp (by kernel_rfl) ?_ | refine zcq PP_mixed (by kernel_rfl) (by kernel_rfl) ?_
  repeat' (refine zap rfl ?_; first | ((with_reducible refine zcu ?_); refine zan rfl ?_) | ((with_reducible refine zcv ?_); refine zan rfl ?_) | ((with_reducible refine zcw ?_); refine zab 3 rfl rfl rfl ?_) | ((with_reducible refine zcx ?_); (refine zai [3, 4, 0, 0, 0] hD rfl rfl rfl sub_swap ?_; rintro v Γ' ⟨st, nb, wa, wl, wc, kn2, rfl, rfl, hW2⟩)) | ((with_reducible refine zcy ?_); refine zao rfl ?_) | ((with_reducible refine zcz ?_); refine zan rfl ?_) | refine zan rfl ?_)
  all_goals refine zch ?_
  all_goals repeat (first | refine zck ?_ | refine zcl ?_ | refine zcm ?_ | refine zcn ?_)
  repeat' (first | refine zck ?_ | refine zcp (by kernel_rfl) ?_ | (refine zap rfl ?_; first | refine zae 6 rfl rfl rfl rfl rfl rfl rfl ?_ | ((with_reducible refine zct ?_); refine zaj rfl ?_) | ((with_reducible refine zcu ?_); refine zan rfl ?_) | ((with_reducible refine zcv ?_); refine zan rfl ?_) | ((with_reducible refine zcw ?_); first | refine zab 1 rfl rfl rfl ?_ | refine zab 2 rfl rfl rfl ?_) | ((with_reducible refine zcy ?_); refine zao rfl ?_) | ((with_reducible refine zdc ?_); refine zbu rfl ?_) | ((with_reducible refine zdd ?_); refine zae 1 rfl rfl rfl rfl rfl rfl rfl ?_)) | refine zch ?_)
  exact run_ret (leaves_nil (ends_take [0, 2, 2, 2] rfl (ends_two rfl (resOk_pt 6 rfl rfl rfl) rfl ⟨rfl, st, nb, kn2, rfl, rfl, hW2⟩)))
end
end Go.Proofs.Ytpcnbaddkblbhaa

/- The law's is. -/
namespace Sim
open Go Go.Vc
variable {K : Int} {m : Int → Int} {k nc tc : Nat} {J : Jn} {ad : Nat → Int}
theorem sets_ok (h : Mm K m k nc tc J ad) : Pg.Ok 368 (f0 K).sets m fun r m' => r = (k : Int) - J.length ∧ m' = m :=
  Pg.Ok.get (by unfold f0; dsimp only; omega) (by unfold f0; dsimp only; omega) (Pg.Ok.pure ⟨h.sets, rfl⟩)
theorem many_get (h : Mm K m k nc tc J ad) : Pg.Ok 368 (Pg.gt 16) m fun r m' => r = (k : Int) ∧ m' = m :=
  Pg.Ok.get (by decide) (by decide) (Pg.Ok.pure ⟨h.many, rfl⟩)
theorem nodes_get (h : Mm K m k nc tc J ad) : Pg.Ok 368 (Pg.gt 23) m fun r m' => r = ((nc + tc : Nat) : Int) ∧ m' = m :=
  Pg.Ok.get (by decide) (by decide) (Pg.Ok.pure ⟨h.nodes, rfl⟩)
end Sim
namespace Go.Proofs.Ytpcnbaddkblbhaa
open Go.Vc Sim
set_option maxHeartbeats 8000000
section
variable {K : Int} {m : Int → Int} {k : Nat} {J : Jn} {ad : Nat → Int}
theorem is1_spec (w0 : World) (sh : Shared) (p xb ob wb : Nat) (hK : 0 ≤ K ∧ K ≤ 38) (r : Rl) (s : Sp) (hC : Cu 368 s s m 0) (h : Mm K m k (nC k) (tC k) J ad) (hxb : (xb, .cells (List.toArray (stC wb K r k J)) 36 (0, 0)) ∈ sh) (hR : RdF w0 sh r.a1 r.c1 r.a2 r.c2 r.a3 r.c3 k J) :
    Vc.Fn PP w0 sh 61 [spP p, ptr xb, ptr ob] [SpaceA p s, okB ob true]
      (fun v Γ => ∃ (s' : Sp), v = .tuple #[] ∧ Γ = [SpaceA p s', okB ob true] ∧ Cu 368 s s' m 0) := by
  have hbl := bL_len k J
  have hjl := jL_len J
  have hkl := h.le
  have hJl := joins_lt h.vd
  have hmx : ∀ hF Γ w, Sh sh hF → St w0 hF Γ w → w.heap[xb]? = some (.cells (List.toArray (stC wb K r k J)) 36 (0, 0)) := fun hF Γ w h1 h2 => (h2.frame (h1 _ hxb)).2
  have hS := rfSets w0 sh hR
  have hN := rfNodes w0 ((bL k J).length : Int) (by omega)
  have eS : ((bL k J).length : Int) - (jL J).length = (k : Int) - J.length := by rw [hbl, hjl]
  have eN : (((bL k J).length : Int) + 1) / 2 + ((((bL k J).length : Int) + 1) / 2 + 7) / 8 = ((nC k + tC k : Nat) : Int) := by rw [hbl]; unfold nC tC; omega
  rw [eS] at hS
  rw [eN] at hN
  refine fn_of_run en61 fn61 rfl rfl rfl ?_
  repeat (first | refine zck ?_ | refine zcl ?_ | refine zcm ?_ | refine zcn ?_)
  first | refine zcp (by kernel_rfl) ?_ | refine zcq PP_mixed (by kernel_rfl) (by kernel_rfl) ?_
  repeat' (refine zap rfl ?_; first | refine zad rfl hmx rfl ?_ | ((with_reducible refine zcv ?_); refine zan rfl ?_) | ((with_reducible refine zcx ?_); refine zce rfl ?_) | ((with_reducible refine zcy ?_); refine zao rfl ?_))
  all_goals refine zch ?_
  all_goals repeat (first | refine zck ?_ | refine zcl ?_ | refine zcm ?_ | refine zcn ?_)
  repeat (first | refine zck ?_ | refine zcl ?_ | refine zcm ?_ | refine zcn ?_)
  first | refine zcp (by kernel_rfl) ?_ | refine zcq PP_mixed (by kernel_rfl) (by kernel_rfl) ?_
  repeat' (refine zap rfl ?_; first | refine zad rfl hmx rfl ?_ | ((with_reducible refine zct ?_); refine zaj rfl ?_) | ((with_reducible refine zcu ?_); refine zan rfl ?_) | ((with_reducible refine zcx ?_); first | (refine reg_callO [0] hC (Pg.bd_gt0 ((f0 K).root + 1)) (sets_ok h) (by omega) (foSets w0 p (f0 K) (f0_ok hK)) rfl rfl rfl sub_nil ?_; rintro x s1 m1 ⟨rfl, em⟩ hC; rw [em] at hC) | (refine reg_callO [0] hC (Pg.bd_gt0 _) (many_get h) (by omega) (getG w0 p 16) rfl rfl rfl sub_nil ?_; rintro x s2 m2 ⟨rfl, em⟩ hC; rw [em] at hC) | (refine reg_callO [0] hC (Pg.bd_gt0 _) (nodes_get h) (by omega) (getG w0 p 23) rfl rfl rfl sub_nil ?_; rintro x s3 m3 ⟨rfl, em⟩ hC; rw [em] at hC) | refine zah [] hS rfl rfl rfl (fun _ h => h) rfl ?_ | refine zah [] hN rfl rfl rfl sub_nil rfl ?_) | ((with_reducible refine zcy ?_); refine zao rfl ?_) | ((with_reducible refine zda ?_); refine zbc rfl rfl (by omega) ?_) | ((with_reducible refine zdc ?_); refine zbu rfl ?_) | ((with_reducible refine zdd ?_); refine zae 1 rfl rfl rfl rfl rfl rfl rfl ?_))
  all_goals refine zch ?_
  all_goals repeat (first | refine zck ?_ | refine zcl ?_ | refine zcm ?_ | refine zcn ?_)
  repeat (first | refine zck ?_ | refine zcl ?_ | refine zcm ?_ | refine zcn ?_)
  first | refine zcp (by kernel_rfl) ?_ | refine zcq PP_mixed (by kernel_rfl) (by kernel_rfl) ?_
  repeat' (refine zap rfl ?_; first | ((with_reducible refine zcv ?_); refine zan rfl ?_))
  all_goals refine zch ?_
  all_goals repeat (first | refine zck ?_ | refine zcl ?_ | refine zcm ?_ | refine zcn ?_)
  rw [hbl]
  refine run_slots [(0, spP p), (1, ptr xb), (2, ptr ob), (4, .int .i64 k), (5, .int .i64 1)] ⟨rfl, rfl, rfl, rfl, rfl, trivial⟩ (fun junk => ?_)
  refine run_loop (S := Nat × Sp) (fun st => [(0, spP p), (1, ptr xb), (2, ptr ob), (4, .int .i64 k), (5, .int .i64 (1 + st.1))])
    (fun st Γ => Γ = [SpaceA p st.2, okB ob true] ∧ Cu 368 s st.2 m 0 ∧ st.1 ≤ k) (fun st => k - st.1) (0, _) ⟨rfl, rfl, rfl, rfl, rfl, trivial⟩ ⟨rfl, hC, Nat.zero_le _⟩ ?_
  rintro ⟨i, s4⟩ Γ junk ⟨rfl, hC, hi⟩
  dsimp only at hC hi ⊢
  by_cases hik : i = k
  · repeat' (first | refine zck ?_ | refine zcp (by kernel_rfl) ?_ | (refine zap rfl ?_; first | ((with_reducible refine zct ?_); refine zaj rfl ?_) | ((with_reducible refine zcu ?_); refine zan rfl ?_) | ((with_reducible refine zcw ?_); refine zab 1 rfl rfl rfl ?_) | ((with_reducible refine zda ?_); refine zbj rfl rfl (by omega) ?_) | ((with_reducible refine zdc ?_); refine zbu rfl ?_)) | refine zch ?_ | refine zcj rfl ?_)
    refine cut_exit rfl rfl ?_
    repeat' (first | refine zcp (by kernel_rfl) ?_ | (refine zap rfl ?_; first | ((with_reducible refine zct ?_); refine zaj rfl ?_) | ((with_reducible refine zcu ?_); refine zan rfl ?_) | ((with_reducible refine zcw ?_); refine zab 1 rfl rfl rfl ?_) | ((with_reducible refine zcx ?_); first | (refine zai [0] (writes_spec w0 p s4 (by have := hC.few; omega)) rfl rfl rfl sub_nil ?_; rintro v Γ' ⟨wa, wcap, rfl, rfl⟩; have hw0 : s4.writes.length = 0 := Sp.writes_len0.2 (List.length_eq_zero_iff.1 (by have := hC.few; omega))) | refine zce rfl ?_) | ((with_reducible refine zda ?_); refine zbc rfl rfl (by omega) ?_) | ((with_reducible refine zdc ?_); refine zbu rfl ?_) | ((with_reducible refine zdd ?_); refine zae 2 rfl rfl rfl rfl rfl rfl rfl ?_)) | refine zch ?_)
    exact run_nil (leaves_nil (ends_take [0, 1] rfl (ends_none rfl ⟨rfl, s4, rfl, rfl, hC⟩)))
  · have hq := Int.emod_lt_of_pos (7 * (1 + (i : Int))) (show 0 < (k : Int) by omega)
    have hq0 := Int.emod_nonneg (7 * (1 + (i : Int))) (show (k : Int) ≠ 0 by omega)
    repeat' (first | refine zck ?_ | refine zcp (by kernel_rfl) ?_ | refine zcq PP_mixed (by kernel_rfl) (by kernel_rfl) ?_ | refine zcm ?_ | refine zcl ?_ | refine zcn ?_ | (refine zap rfl ?_; first | refine zad rfl hmx rfl ?_ | ((with_reducible refine zct ?_); refine zaj rfl ?_) | ((with_reducible refine zcu ?_); refine zan rfl ?_) | ((with_reducible refine zcv ?_); refine zan rfl ?_) | ((with_reducible refine zcw ?_); refine zab 1 rfl rfl rfl ?_) | ((with_reducible refine zcx ?_); (refine zai [0] (asks_spec w0 sh p wb hK hR s s4 0 (by decide) hC h (1 + (i : Int)) (1 + (7 * (1 + (i : Int))) % k) (by omega) (by omega)) rfl rfl rfl (fun _ h => h) ?_; rintro v Γ' ⟨s5, rfl, rfl, hC⟩)) | ((with_reducible refine zda ?_); first | refine zbi rfl rfl (by omega) ?_ | refine zau rfl rfl (by omega) ?_ | refine zaw rfl rfl (by omega) ?_ | refine zay rfl rfl (by omega) ?_) | ((with_reducible refine zdc ?_); refine zbu rfl ?_) | ((with_reducible refine zdd ?_); refine zae 1 rfl rfl rfl rfl rfl rfl rfl ?_)) | refine zch ?_ | refine zci rfl ?_)
    exact cut_end ⟨rfl, (i + 1, s5), ⟨rfl, rfl, rfl, rfl, congrArg (Value.int .i64) (by omega), trivial⟩, ⟨rfl, hC, by omega⟩, by dsimp only; omega⟩
end
end Go.Proofs.Ytpcnbaddkblbhaa

/- The law's is, as a whole. -/
namespace Go.Proofs.Ytpcnbaddkblbhaa
open Go.Vc Sim
set_option maxHeartbeats 8000000
section
variable {K : Int} {m : Int → Int} {k : Nat} {J : Jn} {ad : Nat → Int}
theorem is_spec (w0 : World) (sh : Shared) (wb : Nat) (hK : 0 ≤ K ∧ K ≤ 38) (r : Rl) (kn : List (Int × Wd)) (T : Int) (hT : T ≤ 1000000) (hW : WM 368 T kn m) (h : Mm K m k (nC k) (tC k) J ad) :
    Vc.Fn PP w0 sh 36 [stR wb K r k J] (wdA wb kn :: rl3 r k J) (fun v Γ => v = .bool true ∧ Γ = wdA wb kn :: rl3 r k J) := by
  refine fn_of_run en36 fn36 rfl rfl rfl ?_
  refine run_share_keep [0] rfl ?_
  refine run_lend3 [0, 0, 0] rfl fun sh' hi r1 r2 r3 => ?_
  have hwb : (wb, mapI (knM kn)) ∈ sh' := hi _ (.head _)
  have hR := rdF h.le h.vd r1 r2 r3
  repeat (first | refine zck ?_ | refine zcl ?_ | refine zcm ?_ | refine zcn ?_)
  first | refine zcp (by kernel_rfl) ?_ | refine zcq PP_mixed (by kernel_rfl) (by kernel_rfl) ?_
  repeat' (refine zap rfl ?_; first | ((with_reducible refine zcv ?_); refine zan rfl ?_) | ((with_reducible refine zdg ?_); refine zaq (cs := [_, _, _, _, _, _, _, _]) rfl (fun nb => ?_)))
  all_goals refine zch ?_
  all_goals repeat (first | refine zck ?_ | refine zcl ?_ | refine zcm ?_ | refine zcn ?_)
  revert nb; intro xb
  refine run_share [0] rfl ?_
  repeat (first | refine zck ?_ | refine zcl ?_ | refine zcm ?_ | refine zcn ?_)
  first | refine zcp (by kernel_rfl) ?_ | refine zcq PP_mixed (by kernel_rfl) (by kernel_rfl) ?_
  repeat' (refine zap rfl ?_; first | ((with_reducible refine zdd ?_); refine zae 0 rfl rfl rfl rfl rfl rfl rfl ?_) | ((with_reducible refine zdh ?_); refine zar (fun nb => ?_)))
  all_goals refine zch ?_
  all_goals repeat (first | refine zck ?_ | refine zcl ?_ | refine zcm ?_ | refine zcn ?_)
  revert nb; intro ob
  have hD := done_mem (σ := Unit) w0 ((xb, .cells (List.toArray (stC wb K r k J)) 36 (0, 0)) :: sh') wb kn 368 T m hT hW 61 (List.toArray [ptr xb, ptr ob]) (okB ob true) (fun _ => okB ob true) (fun _ => m)
    (fun p s hC _ => (is1_spec w0 _ p xb ob wb hK r s hC h (.head _) (hR.mono fun _ h => .tail _ h)).mono (fun v Γ ⟨s', e1, e2, e3⟩ => ⟨(), s', 0, e1, e2, by decide, e3⟩))
  repeat (first | refine zck ?_ | refine zcl ?_ | refine zcm ?_ | refine zcn ?_)
  first | refine zcp (by kernel_rfl) ?_ | refine zcq PP_mixed (by kernel_rfl) (by kernel_rfl) ?_
  repeat' (refine zap rfl ?_; first | ((with_reducible refine zcu ?_); refine zan rfl ?_) | ((with_reducible refine zcv ?_); refine zan rfl ?_) | ((with_reducible refine zcw ?_); refine zaa 0 rfl rfl rfl ?_) | ((with_reducible refine zcx ?_); (refine zai [0] hD rfl rfl rfl (fun p hp => by rcases List.mem_cons.1 hp with e | hp <;> first | (subst e; exact .tail _ hwb) | exact hp) ?_; rintro v Γ' ⟨_, nb, wa, wl, wc, kn2, rfl, rfl, hW2⟩)) | ((with_reducible refine zcy ?_); refine zao rfl ?_) | ((with_reducible refine zcz ?_); refine zan rfl ?_) | refine zan rfl ?_)
  all_goals refine zch ?_
  all_goals repeat (first | refine zck ?_ | refine zcl ?_ | refine zcm ?_ | refine zcn ?_)
  have hA := alike_spec w0 nb wb kn2 kn
  rw [alike_same hW2 hW] at hA
  refine run_share [0] rfl ?_
  repeat' (first | refine zcp (by kernel_rfl) ?_ | (refine zap rfl ?_; first | ((with_reducible refine zct ?_); refine zaj rfl ?_) | ((with_reducible refine zcu ?_); refine zan rfl ?_) | ((with_reducible refine zcv ?_); refine zan rfl ?_) | ((with_reducible refine zcw ?_); first | refine zaa 1 rfl rfl rfl ?_ | refine zab 0 rfl rfl rfl ?_) | ((with_reducible refine zcx ?_); refine zah [] hA rfl rfl rfl (fun p hp => by rcases List.mem_cons.1 hp with e | hp <;> first | (subst e; exact .head _) | (rw [List.mem_singleton.1 hp]; exact .tail _ (.tail _ hwb))) rfl ?_) | ((with_reducible refine zcy ?_); refine zao rfl ?_) | ((with_reducible refine zdc ?_); refine zbu rfl ?_)) | refine zch ?_)
  exact run_ret (leaves_nil (ends_take [4, 1, 1, 1] rfl (ends_one rfl rfl ⟨rfl, rfl, rfl⟩)))
end
end Go.Proofs.Ytpcnbaddkblbhaa

/- The law's played. -/
namespace Sim
open Go Go.Vc
theorem Mm.zero (K : Int) (hK : 0 ≤ K ∧ K ≤ 38) : Mm K (fun _ => 0) 0 (nC 0) (tC 0) [] (fun _ => 0) := by
  have hv : ∀ i, ¬ Vx (nC 0) (tC 0) i := by
    intro i hi
    rcases hi with hi | ⟨h1, h2⟩
    · exact absurd hi (Nat.not_lt_zero _)
    · have : tC 0 = 0 := rfl
      omega
  refine ⟨Nat.zero_le _, Nat.zero_le _, Nat.zero_le _, Nat.zero_le _, trivial, rfl, rfl, rfl, rfl, fun i j hi => absurd hi (hv i), ?_, fun j hj => absurd hj (Nat.not_lt_zero _), fun q hq => absurd hq (Nat.not_lt_zero _), fun x h1 h2 => by omega, trivial⟩
  refine ⟨[], 0, Int.le_refl _, by unfold f0; exact hK.1, rfl, rfl, rfl, List.nodup_nil, by simp, fun b => ⟨fun ⟨i, hi, _⟩ => absurd hi (hv i), fun ⟨⟨k, h0, h1, _⟩, _⟩ => by omega⟩, rfl, Int.le_refl _⟩
structure Cl where
  d : Int
  X : Int
  Y : Int
def Cl.ok (x : Cl) : Prop := (0 ≤ x.d ∧ x.d ≤ 255) ∧ Go.Vc.i64P x.X ∧ Go.Vc.i64P x.Y
abbrev Cl.cells (x : Cl) : List Go.Value := [.int .u8 x.d, .int .i64 x.X, .int .i64 x.Y]
def stepC (K : Int) (s : Nat × Jn) (x : Cl) : Nat × Jn := stepJ K s.1 s.2 x.d x.X x.Y
/-- What a list of calls makes. -/
def plJ (K : Int) (l : List Cl) (i : Nat) : Nat × Jn := (l.take i).foldl (stepC K) (0, [])
theorem plJ_succ {K : Int} {l : List Cl} {i : Nat} {x : Cl} (h : l[i]? = some x) : plJ K l (i + 1) = stepC K (plJ K l i) x := by
  unfold plJ
  rw [List.take_add_one, h]
  simp
end Sim
namespace Go.Vc
/-- What is read at a place of several cells. -/
theorem RdSl.cells {α : Type} {encE : α → List Value} {q : Nat} {w0 : World} {sh : Shared} {l : List α} {a : Option Addr} {cap len : Nat} (h : RdSl w0 sh encE q (.slice a len cap) l) {i : Nat} {x : α} (hx : l[i]? = some x) :
    ∃ b off c T fr, a = some ⟨b, off, none⟩ ∧ (∀ hF Γ w, Sh sh hF → St w0 hF Γ w → w.heap[b]? = some (.cells c T fr)) ∧ ∀ o, o = off + i * q → rd true q c.toList o = some (.agg (List.toArray (encE x))) := by
  obtain ⟨a', cap', h1, _, h2⟩ := h
  cases h1
  have hne : l ≠ [] := by intro e; subst e; simp at hx
  obtain ⟨b, off, c, T, fr, e, hh, hc⟩ := h2.resolve_left hne
  exact ⟨b, off, c, T, fr, e, hh, rd_cells (hc i x hx).1 (fun k u hu => by rw [Nat.add_assoc]; exact (hc i x hx).2 k u hu)⟩
end Go.Vc
namespace Go.Proofs.Ytpcnbaddkblbhaa
open Go.Vc Sim
set_option maxHeartbeats 8000000
section
theorem played_spec (w0 : World) (sh : Shared) (nn : Int) (hn : 0 ≤ nn ∧ nn ≤ 255) (v : Value) (l : List Cl) (hv : RdSl w0 sh Cl.cells 3 v l) (hok : ∀ x ∈ l, x.ok) (hlen : l.length ≤ 1000000) :
    Vc.Fn PP w0 sh 11 [.int .u8 nn, v] []
      (fun v Γ => ∃ (st : Fs (nn % 39) (plJ (nn % 39) l l.length).1 (plJ (nn % 39) l l.length).2) (wb : Nat) (kn : List (Int × Wd)), v = .tuple #[stR wb (nn % 39) st.r (plJ (nn % 39) l l.length).1 (plJ (nn % 39) l l.length).2, .bool true] ∧ Γ = wdA wb kn :: rl3 st.r (plJ (nn % 39) l l.length).1 (plJ (nn % 39) l l.length).2 ∧ WM 368 l.length kn st.m) := by
  have hK : 0 ≤ nn % 39 ∧ nn % 39 ≤ 38 := by omega
  have hMd := made_spec w0 nn hn
  have hF := fresh_spec w0 368 (by decide)
  obtain ⟨a, cap, rfl, hcap, _⟩ := id hv
  generalize nn % 39 = K at hK hMd ⊢
  refine fn_of_run en11 fn11 rfl rfl rfl ?_
  repeat (first | refine zck ?_ | refine zcl ?_ | refine zcm ?_ | refine zcn ?_)
  first | refine zcp (by kernel_rfl) ?_ | refine zcq PP_mixed (by kernel_rfl) (by kernel_rfl) ?_
  repeat' (refine zap rfl ?_; first | ((with_reducible refine zcv ?_); refine zan rfl ?_) | ((with_reducible refine zdh ?_); refine zar (fun nb => ?_)))
  all_goals refine zch ?_
  all_goals repeat (first | refine zck ?_ | refine zcl ?_ | refine zcm ?_ | refine zcn ?_)
  revert nb; intro tb
  repeat (first | refine zck ?_ | refine zcl ?_ | refine zcm ?_ | refine zcn ?_)
  first | refine zcp (by kernel_rfl) ?_ | refine zcq PP_mixed (by kernel_rfl) (by kernel_rfl) ?_
  repeat' (refine zap rfl ?_; first | ((with_reducible refine zcu ?_); refine zan rfl ?_) | ((with_reducible refine zcx ?_); first | (refine zai [] hF rfl rfl rfl sub_nil ?_; rintro v Γ' ⟨wb, rfl, rfl⟩) | refine zah [] hMd rfl rfl rfl sub_nil rfl ?_) | ((with_reducible refine zdd ?_); refine zae 2 rfl rfl rfl rfl rfl rfl rfl ?_) | ((with_reducible refine zdh ?_); refine zar (fun nb => ?_)) | refine zcb rfl ?_)
  all_goals refine zch ?_
  all_goals repeat (first | refine zck ?_ | refine zcl ?_ | refine zcm ?_ | refine zcn ?_)
  revert nb; intro xb
  repeat (first | refine zck ?_ | refine zcl ?_ | refine zcm ?_ | refine zcn ?_)
  first | refine zcp (by kernel_rfl) ?_ | refine zcq PP_mixed (by kernel_rfl) (by kernel_rfl) ?_
  repeat' (refine zap rfl ?_; first | ((with_reducible refine zcu ?_); refine zan rfl ?_) | ((with_reducible refine zcx ?_); refine zce rfl ?_))
  all_goals refine zch ?_
  all_goals repeat (first | refine zck ?_ | refine zcl ?_ | refine zcm ?_ | refine zcn ?_)
  refine run_slots [(4, ptr tb), (6, ptr xb), (15, .slice a l.length cap), (16, .int .i64 l.length), (17, .int .i64 0)] ⟨rfl, rfl, rfl, rfl, rfl, trivial⟩ (fun junk => ?_)
  refine run_emp (A := LstA 3 (.slice none 0 0) []) ⟨none, 0, rfl, SlA_nil⟩ ?_
  refine run_emp (A := LstA 3 (.slice none 0 0) []) ⟨none, 0, rfl, SlA_nil⟩ ?_
  refine run_emp (A := LstA 3 (.slice none 0 0) []) ⟨none, 0, rfl, SlA_nil⟩ ?_
  refine run_loop (S := Nat × Rl × Nat × List (Int × Wd) × (Int → Int)) (fun st => [(4, ptr tb), (6, ptr xb), (15, .slice a l.length cap), (16, .int .i64 l.length), (17, .int .i64 (st.1 : Int))])
    (fun st Γ => Γ = wdA st.2.2.1 st.2.2.2.1 :: pt tb (.cells (List.toArray [.map none, .int .i64 0, .int .i64 0, .int .i64 0, .int .i64 0, .slice none 0 0, .slice none 0 0, .slice none 0 0]) 36 (0, 0)) :: stB xb st.2.2.1 K st.2.1 (plJ K l st.1).1 (plJ K l st.1).2 :: rl3 st.2.1 (plJ K l st.1).1 (plJ K l st.1).2 ∧ st.1 ≤ l.length ∧
      WM 368 st.1 st.2.2.2.1 st.2.2.2.2 ∧ ∃ ad, Mm K st.2.2.2.2 (plJ K l st.1).1 (nC (plJ K l st.1).1) (tC (plJ K l st.1).1) (plJ K l st.1).2 ad) (fun st => l.length - st.1) (0, ⟨none, 0, none, 0, none, 0⟩, wb, wk 0 (List.replicate 368 0), fun _ => 0) ⟨rfl, rfl, rfl, rfl, rfl, trivial⟩ ⟨rfl, Nat.zero_le _, fresh_WM 368 (by decide), _, Mm.zero K hK⟩ ?_
  rintro ⟨i, r, wb, kn, m⟩ Γ junk ⟨rfl, hi, hW, ad, hM⟩
  dsimp only at hi hW hM ⊢
  by_cases hlt : i < l.length
  · have hx : l[i]? = some l[i] := List.getElem?_eq_getElem hlt
    generalize l[i] = x at hx
    have hxo := hok x (List.mem_of_getElem? hx)
    have hS := fun sh => step_spec w0 sh wb hK r kn i (by omega) hW hM x.d x.X x.Y hxo.1 hxo.2.1.2 hxo.2.2.2 (plJ K l (i + 1)).1 (plJ K l (i + 1)).2 (plJ_succ hx).symm
    generalize hs0 : plJ K l i = s0 at hS hM
    generalize hs1 : plJ K l (i + 1) = s1 at hS
    obtain ⟨k, J⟩ := s0
    obtain ⟨k1, J1⟩ := s1
    obtain ⟨b, off, cc, TT, fr, rfl, hh, hcx⟩ := hv.cells hx
    repeat (first | refine zck ?_ | refine zcl ?_ | refine zcm ?_ | refine zcn ?_)
    first | refine zcp (by kernel_rfl) ?_ | refine zcq PP_mixed (by kernel_rfl) (by kernel_rfl) ?_
    repeat' (refine zap rfl ?_; first | ((with_reducible refine zda ?_); refine zbg rfl rfl (by omega) ?_))
    all_goals refine zch ?_
    all_goals repeat (first | refine zck ?_ | refine zcl ?_ | refine zcm ?_ | refine zcn ?_)
    refine zci rfl ?_
    repeat (first | refine zck ?_ | refine zcl ?_ | refine zcm ?_ | refine zcn ?_)
    first | refine zcp (by kernel_rfl) ?_ | refine zcq PP_mixed (by kernel_rfl) (by kernel_rfl) ?_
    repeat' (refine zap rfl ?_; first | refine zad rfl hh (hcx _ (by omega)) ?_ | refine zae 6 rfl rfl rfl rfl rfl rfl rfl ?_ | ((with_reducible refine zdf ?_); refine zas rfl rfl (by omega) ?_) | ((with_reducible refine zdh ?_); refine zar (fun nb => ?_)))
    all_goals refine zch ?_
    all_goals repeat (first | refine zck ?_ | refine zcl ?_ | refine zcm ?_ | refine zcn ?_)
    refine run_share [6] rfl ?_
    repeat (first | refine zck ?_ | refine zcl ?_ | refine zcm ?_ | refine zcn ?_)
    first | refine zcp (by kernel_rfl) ?_ | refine zcq PP_mixed (by kernel_rfl) (by kernel_rfl) ?_
    repeat' (refine zap rfl ?_; first | (refine zai [0, 2, 2, 2] (hS sh) rfl rfl rfl (fun _ h => .tail _ h) ?_; rintro v Γ' ⟨⟨m1, r1, ad1, hM1⟩, wb1, kn1, rfl, rfl, hW1⟩) | refine zae 6 rfl rfl rfl rfl rfl rfl rfl ?_ | ((with_reducible refine zcu ?_); refine zan rfl ?_) | ((with_reducible refine zcv ?_); refine zan rfl ?_) | ((with_reducible refine zcw ?_); first | refine zaa 0 rfl rfl rfl ?_ | refine zab 2 rfl rfl rfl ?_) | ((with_reducible refine zcz ?_); refine zan rfl ?_) | ((with_reducible refine zdh ?_); refine zar (fun nb => ?_)))
    all_goals refine zch ?_
    all_goals repeat (first | refine zck ?_ | refine zcl ?_ | refine zcm ?_ | refine zcn ?_)
    revert nb; intro nx
    refine run_share [6] rfl ?_
    have hI := is_spec w0 sh wb1 hK r1 kn1 (i + 1) (by omega) hW1 hM1
    repeat (first | refine zck ?_ | refine zcl ?_ | refine zcm ?_ | refine zcn ?_)
    first | refine zcp (by kernel_rfl) ?_ | refine zcq PP_mixed (by kernel_rfl) (by kernel_rfl) ?_
    repeat' (refine zap rfl ?_; first | (refine zai [0, 0, 0, 0] hI rfl rfl rfl (fun _ h => .tail _ (.tail _ h)) ?_; rintro v Γ' ⟨rfl, rfl⟩) | ((with_reducible refine zct ?_); refine zaj rfl ?_) | ((with_reducible refine zcu ?_); refine zan rfl ?_) | ((with_reducible refine zcw ?_); refine zaa 0 rfl rfl rfl ?_) | ((with_reducible refine zdb ?_); refine zbx rfl ?_) | ((with_reducible refine zdc ?_); refine zbv rfl ?_))
    all_goals refine zch ?_
    all_goals repeat (first | refine zck ?_ | refine zcl ?_ | refine zcm ?_ | refine zcn ?_)
    refine zcj rfl ?_
    repeat' (first | refine zcp (by kernel_rfl) ?_ | refine zcm ?_ | refine zcn ?_ | (refine zap rfl ?_; first | ((with_reducible refine zcu ?_); refine zan rfl ?_) | ((with_reducible refine zcw ?_); refine zaa 0 rfl rfl rfl ?_) | ((with_reducible refine zda ?_); refine zau rfl rfl (by omega) ?_) | ((with_reducible refine zdd ?_); refine zae 5 rfl rfl rfl rfl rfl rfl rfl ?_)) | refine zch ?_)
    refine run_take [0, 3, 3, 0, 0, 0] rfl ?_
    refine cut_end ⟨rfl, (i + 1, r1, wb1, kn1, m1), ⟨rfl, rfl, rfl, rfl, congrArg (Value.int .i64) (by dsimp only; omega), trivial⟩, ⟨?_, by dsimp only; omega, ?_, ad1, ?_⟩, by dsimp only; omega⟩
    · dsimp only
      rw [hs1]
    · exact (show ((i + 1 : Nat) : Int) = (i : Int) + 1 by omega) ▸ hW1
    · dsimp only
      rw [hs1]
      exact hM1
  · have hil : i = l.length := by omega
    repeat' (first | refine zck ?_ | refine zcp (by kernel_rfl) ?_ | (refine zap rfl ?_; first | ((with_reducible refine zda ?_); refine zbh rfl rfl (by omega) ?_)) | refine zch ?_ | refine zcj rfl ?_)
    refine cut_exit rfl rfl ?_
    repeat' (first | refine zck ?_ | refine zcp (by kernel_rfl) ?_ | (refine zap rfl ?_; first | ((with_reducible refine zcv ?_); refine zan rfl ?_) | ((with_reducible refine zcw ?_); refine zab 2 rfl rfl rfl ?_) | ((with_reducible refine zdd ?_); refine zae 1 rfl rfl rfl rfl rfl rfl rfl ?_)) | refine zch ?_)
    subst hil
    exact run_ret (leaves_nil (ends_take [0, 2, 2, 2] rfl (ends_two rfl (resOk_pt 1 rfl rfl rfl) rfl ⟨rfl, ⟨m, r, ad, hM⟩, wb, kn, rfl, rfl, hW⟩)))
end
end Go.Proofs.Ytpcnbaddkblbhaa

/- What every row of this seat shares. -/
namespace Go.Proofs.Ytpcnbaddkblbhaa
open Go.Vc Sim Go.ChangeShapes Go.WideShapes Go.RowKit
set_option maxRecDepth 100000
theorem cOwn : ownKnob Try.prog.godebug = none := by kernel_rfl
theorem cLaid : laidOutB Try.prog = true := by kernel_rfl
theorem calls_of {f : FuncId} {args : List Value} {W : World} (h : FnE PP W [] f args [] (.bool true) []) : Calls Try.prog f args.toArray W fun e W' => e = .returned (.bool true) ∧ Below W.heap.size W W' := by
  have := h.calls Heap.emp W (fun p hp => by cases hp) (st_start W)
  rw [PP_def] at this
  exact this.mono fun e W' ⟨v, Γ', he, ⟨hv, hΓ⟩, hst⟩ => ⟨by rw [he, hv], below_of_good hst.good⟩
theorem in_call {H : Type} {enc : TypeId × Value → H} {w : World} {base : Nat} {spare : Nat → Bool} {held : Bool} {n : Nat} {cs : List Value} {y : DataW H × List MemPlace}
    (h : DataW.trod enc Try.prog w base spare held n 66 cs = some y) : ∃ x : Cl, x.ok ∧ cs = x.cells := by
  obtain ⟨xs, n', _, _, hlen, hxl, hf⟩ := DataW.trod_struct Try.underlying66 h
  have c5 : Try.prog.cellsOf 5 = 1 := by kernel_rfl
  have c2 : Try.prog.cellsOf 2 = 1 := by kernel_rfl
  have c48 : Try.prog.cellsOf 66 = 3 := by kernel_rfl
  rw [c48] at hlen
  have f0 : DataW.trod enc Try.prog w base spare held n' 5 ((cs.drop 0).take (Try.prog.cellsOf 5)) = xs[0]? := hf 0 _ rfl
  have f1 : DataW.trod enc Try.prog w base spare held n' 2 ((cs.drop 1).take (Try.prog.cellsOf 2)) = xs[1]? := hf 1 _ rfl
  have f2 : DataW.trod enc Try.prog w base spare held n' 2 ((cs.drop 2).take (Try.prog.cellsOf 2)) = xs[2]? := hf 2 _ rfl
  rw [c5] at f0
  rw [c2] at f1 f2
  match cs, hlen with
  | [a0, a1, a2], _ =>
    match xs, hxl with
    | [y0, y1, y2], _ =>
      obtain ⟨k0, e0, _, w0⟩ := DataW.trod_int Try.underlying5 (show DataW.trod _ _ _ _ _ _ n' _ [a0] = some y0 from f0)
      obtain ⟨k1, e1, _, w1⟩ := DataW.trod_int Try.underlying2 (show DataW.trod _ _ _ _ _ _ n' _ [a1] = some y1 from f1)
      obtain ⟨k2, e2, _, w2⟩ := DataW.trod_int Try.underlying2 (show DataW.trod _ _ _ _ _ _ n' _ [a2] = some y2 from f2)
      simp only [List.cons.injEq, and_true] at e0 e1 e2
      subst e0; subst e1; subst e2
      exact ⟨⟨k0, k1, k2⟩, ⟨wf_u8 w0, wf_i64 w1, wf_i64 w2⟩, rfl⟩
theorem in_call1 {H : Type} {enc : TypeId × Value → H} {w : World} {base : Nat} {spare : Nat → Bool} {held : Bool} {r : Reach} {b0 : Nat} {v : Value} {d : DataW H} {ps : List MemPlace}
    (hval : Value.okWide Try.prog w r b0 66 v) (h : DataW.Trod enc Try.prog w base spare held 66 v d ps) : ∃ x : Cl, v = .agg (List.toArray x.cells) ∧ x.ok := by
  obtain ⟨fuel, hf⟩ := h
  simp only [Value.okWide, Try.underlying66] at hval
  obtain ⟨cs, rfl, _⟩ := hval
  obtain ⟨x, hx, hc⟩ := in_call hf
  refine ⟨x, ?_, hx⟩
  have : cs.toList = x.cells := hc
  rw [← this]
theorem in_calls {H : Type} {enc : TypeId × Value → H} {w : World} {base : Nat} {spare : Nat → Bool} {held : Bool} {r : Reach} {b0 : Nat} {v : Value} {d : DataW H} {ps : List MemPlace}
    (hval : Value.okWide Try.prog w r b0 22 v) (h : DataW.Trod enc Try.prog w base spare held 22 v d ps) : ∃ l, InSl w Cl.cells 3 v l ∧ ∀ x ∈ l, x.ok :=
  in_slice Cl.cells Cl.ok Try.underlying22 (by kernel_rfl) (by decide) hval (fun n cs y hy => in_call hy) h
end Go.Proofs.Ytpcnbaddkblbhaa

/- Programs over a space: what they read alone decides; paths that write nothing. -/
namespace Sim
open Go Go.Vc
namespace Pg
variable {α β : Type}
theorem ins_mem {l : List Int} {x a : Int} (h : a ∈ l) : a ∈ insI l x := by
  induction l with
  | nil => cases h
  | cons b l ih =>
    simp only [insI]
    split
    · exact h
    · rcases List.mem_cons.1 h with rfl | h
      · exact .head _
      · exact .tail _ (ih h)
theorem ins_self (l : List Int) (x : Int) : x ∈ insI l x := by
  induction l with
  | nil => exact .head _
  | cons b l ih =>
    simp only [insI]
    split
    · rename_i h; rw [h]; exact .head _
    · exact .tail _ ih
theorem reads_rd (s : Sp) (x : Int) : ∀ a ∈ s.rd, a ∈ (s.reads x).2.rd := by
  intro a ha
  unfold Sp.reads
  split
  · exact ha
  · split
    · exact ha
    · exact ins_mem ha
theorem reads_ended (s : Sp) (x : Int) (h : s.ended = true) : (s.reads x).2.ended = true := by
  unfold Sp.reads; rw [if_pos h]; exact h
theorem get_snd (s : Sp) (x : Int) : (s.get x).2 = (s.reads x).2 := by unfold Sp.get; split <;> rfl
theorem put_rd (s : Sp) (x v : Int) : (s.put x v).rd = (s.reads x).2.rd := by unfold Sp.put; split <;> rfl
theorem put_ended (s : Sp) (x v : Int) : (s.put x v).ended = (s.reads x).2.ended := by unfold Sp.put; split <;> rfl
theorem back_rd (s : Sp) (m : Int) : (s.back m).rd = s.rd := by unfold Sp.back; split <;> rfl
theorem back_ended (s : Sp) (m : Int) : (s.back m).ended = s.ended := by unfold Sp.back; split <;> rfl
theorem run_rd : ∀ (g : Pg α) (s : Sp), ∀ a ∈ s.rd, a ∈ (run g s).2.rd
  | ret _, _, _, h => h
  | get x k, s, a, h => run_rd (k (s.get x).1) (s.get x).2 a (by rw [get_snd]; exact reads_rd s x a h)
  | put x v k, s, a, h => run_rd k (s.put x v) a (by rw [put_rd]; exact reads_rd s x a h)
  | mark k, s, a, h => run_rd (k s.puts.length) s a h
  | back m k, s, a, h => run_rd k (s.back m) a (by rw [back_rd]; exact h)
theorem run_ended : ∀ (g : Pg α) (s : Sp), s.ended = true → (run g s).2.ended = true
  | ret _, _, h => h
  | get x k, s, h => run_ended (k (s.get x).1) (s.get x).2 (by rw [get_snd]; exact reads_ended s x h)
  | put x v k, s, h => run_ended k (s.put x v) (by rw [put_ended]; exact reads_ended s x h)
  | mark k, s, h => run_ended (k s.puts.length) s h
  | back m k, s, h => run_ended k (s.back m) (by rw [back_ended]; exact h)
/-- Two spaces that are alike but for words out of `R`. -/
structure Twin (R : List Int) (s t : Sp) : Prop where
  puts : t.puts = s.puts
  rd : t.rd = s.rd
  e1 : s.ended = false
  e2 : t.ended = false
  kn : ∀ a ∈ R, lookW t.kn a = lookW s.kn a
theorem Twin.reads {R : List Int} {s t : Sp} (h : Twin R s t) {x : Int} (hx : x ∈ R) (he : (s.reads x).2.ended = false) : (t.reads x).1 = (s.reads x).1 ∧ Twin R (s.reads x).2 (t.reads x).2 := by
  have e1 := h.e1
  have e2 := h.e2
  have hk := h.kn x hx
  unfold Sp.reads at he ⊢
  have n1 : ¬ s.ended = true := by rw [e1]; decide
  have n2 : ¬ t.ended = true := by rw [e2]; decide
  rw [if_neg n1] at he
  rw [if_neg n1, if_neg n2, hk]
  cases hl : lookW s.kn x with
  | none => rw [hl] at he; cases he
  | some w => exact ⟨rfl, h.puts, by dsimp only; rw [h.rd], e1, e2, h.kn⟩
theorem Twin.value {R : List Int} {s t : Sp} (h : Twin R s t) {x : Int} (hx : x ∈ R) : t.value x = s.value x := by
  unfold Sp.value
  rw [h.puts, h.kn x hx]
theorem Twin.get {R : List Int} {s t : Sp} (h : Twin R s t) {x : Int} (hx : x ∈ R) (he : (s.get x).2.ended = false) : (t.get x).1 = (s.get x).1 ∧ Twin R (s.get x).2 (t.get x).2 := by
  rw [get_snd] at he
  obtain ⟨h1, h2⟩ := h.reads hx he
  refine ⟨?_, by rw [get_snd, get_snd]; exact h2⟩
  unfold Sp.get
  rw [h1]
  split
  · show ((t.reads x).2.value x).1 = ((s.reads x).2.value x).1
    rw [h2.value hx]
  · rfl
theorem Twin.put {R : List Int} {s t : Sp} (h : Twin R s t) {x v : Int} (hx : x ∈ R) (he : (s.put x v).ended = false) : Twin R (s.put x v) (t.put x v) := by
  rw [put_ended] at he
  obtain ⟨h1, h2⟩ := h.reads hx he
  unfold Sp.put
  rw [h1]
  split
  · exact ⟨by dsimp only; rw [h.puts], h2.rd, h2.e1, h2.e2, h2.kn⟩
  · exact h2
theorem Twin.back {R : List Int} {s t : Sp} (h : Twin R s t) (m : Int) : Twin R (s.back m) (t.back m) := by
  unfold Sp.back
  rw [h.puts, h.e1, h.e2]
  split
  · exact ⟨rfl, h.rd, rfl, rfl, h.kn⟩
  · exact h
theorem reads_in {s : Sp} {x : Int} (he : (s.reads x).2.ended = false) : x ∈ (s.reads x).2.rd := by
  unfold Sp.reads at he ⊢
  split at he
  · rename_i h; rw [if_pos h]; dsimp only at he; rw [h] at he; cases he
  · rename_i h
    rw [if_neg h]
    split at he
    · cases he
    · exact ins_self _ _
/-- What a program does depends on the words that it reads. -/
theorem run_twin {R : List Int} : ∀ (g : Pg α) {s t : Sp}, Twin R s t → (run g s).2.ended = false → (∀ a ∈ (run g s).2.rd, a ∈ R) → (run g t).1 = (run g s).1 ∧ Twin R (run g s).2 (run g t).2
  | ret _, _, _, h, _, _ => ⟨rfl, h⟩
  | get x k, s, t, h, he, hr => by
    have e1 : (s.get x).2.ended = false := by
      cases hh : (s.get x).2.ended with
      | false => rfl
      | true => have := run_ended (k (s.get x).1) (s.get x).2 hh; rw [show (run (get x k) s) = run (k (s.get x).1) (s.get x).2 from rfl, this] at he; cases he
    have hx : x ∈ R := hr x (run_rd (k (s.get x).1) (s.get x).2 x (by rw [get_snd] at e1 ⊢; exact reads_in e1))
    obtain ⟨g1, g2⟩ := h.get hx e1
    have := run_twin (k (s.get x).1) g2 he hr
    show (run (k (t.get x).1) (t.get x).2).1 = _ ∧ Twin R _ (run (k (t.get x).1) (t.get x).2).2
    rw [g1]
    exact this
  | put x v k, s, t, h, he, hr => by
    have e1 : (s.put x v).ended = false := by
      cases hh : (s.put x v).ended with
      | false => rfl
      | true => have := run_ended k (s.put x v) hh; rw [show (run (put x v k) s) = run k (s.put x v) from rfl, this] at he; cases he
    have hx : x ∈ R := hr x (run_rd k (s.put x v) x (by rw [put_ended] at e1; rw [put_rd]; exact reads_in e1))
    exact run_twin k (h.put hx e1) he hr
  | mark k, s, t, h, he, hr => by
    have := run_twin (k s.puts.length) h he hr
    show (run (k t.puts.length) t).1 = _ ∧ Twin R _ (run (k t.puts.length) t).2
    rw [h.puts]
    exact this
  | back m k, s, t, h, he, hr => run_twin k (h.back m) he hr
/-- A path that ends so writes nothing. -/
def Qt (φ : α → Prop) : Pg α → Prop
  | ret _ => True
  | get _ k => ∀ v, Qt φ (k v)
  | put _ _ k => All (fun r => ¬ φ r) k
  | mark k => ∀ m, Qt φ (k m)
  | back _ k => Qt φ k
theorem run_qt {φ : α → Prop} : ∀ (g : Pg α) (s : Sp), Qt φ g → s.puts = [] → φ (run g s).1 → (run g s).2.puts = []
  | ret _, _, _, h, _ => h
  | get x k, s, hq, h, hp => run_qt (k (s.get x).1) (s.get x).2 (hq _) ((get_puts s x).trans h) hp
  | put x v k, s, hq, h, hp => absurd hp (all_run (g := k) (s := s.put x v) hq)
  | mark k, s, hq, h, hp => run_qt (k s.puts.length) s (hq _) h hp
  | back m k, s, hq, h, hp => run_qt k (s.back m) hq (List.length_eq_zero_iff.1 (Nat.le_zero.1 (by have := back_len s m; rw [h] at this; exact this))) hp
theorem qt_bind {φ : β → Prop} {f : α → Pg β} (hf : ∀ a, Qt φ (f a)) : ∀ {g : Pg α}, Bd 0 g → Qt φ (g >>= f)
  | ret a, _ => hf a
  | get x k, h => fun v => qt_bind hf (g := k v) (by simp only [Bd] at h; exact h v)
  | put _ _ _, h => by simp [Bd] at h
  | mark k, h => fun v => qt_bind hf (g := k v) (by simp only [Bd] at h; exact h v)
  | back _ k, h => qt_bind hf (g := k) (by simp only [Bd] at h; exact h)
theorem qt_all {φ : α → Prop} : ∀ {g : Pg α}, All (fun r => ¬ φ r) g → Qt φ g
  | ret _, _ => trivial
  | get _ k, h => fun v => qt_all (g := k v) (h v)
  | put _ _ _, h => h
  | mark k, h => fun v => qt_all (g := k v) (h v)
  | back _ k, h => qt_all (g := k) h
theorem all_leaf {φ : β → Prop} {f : α → Pg β} (hf : ∀ a, All φ (f a)) : ∀ (g : Pg α), All φ (g >>= f)
  | ret a => hf a
  | get _ k => fun v => all_leaf hf (k v)
  | put _ _ k => all_leaf hf k
  | mark k => fun v => all_leaf hf (k v)
  | back _ k => all_leaf hf k
theorem qt_bd {φ : α → Prop} : ∀ {g : Pg α}, Bd 0 g → Qt φ g
  | ret _, _ => trivial
  | get _ k, h => fun v => qt_bd (g := k v) (by simp only [Bd] at h; exact h v)
  | put _ _ _, h => by simp [Bd] at h
  | mark k, h => fun v => qt_bd (g := k v) (by simp only [Bd] at h; exact h v)
  | back _ k, h => qt_bd (g := k) (by simp only [Bd] at h; exact h)
theorem qt_ite {φ : α → Prop} {c : Prop} [Decidable c] {x y : Pg α} (hx : Qt φ x) (hy : Qt φ y) : Qt φ (if c then x else y) := by split <;> assumption
end Pg
namespace Fo
open Pg
variable (F : Fo)
theorem qt_join (x y : Int) : Qt (fun r => r.1 = false) (F.join x y) := by
  unfold join
  repeat' first | exact qt_bd (bd_pure _) | with_reducible refine qt_ite ?_ ?_ | with_reducible refine qt_bind (g := Pg.gt _) (fun _ => ?_) (bd_gt0 _) | with_reducible refine qt_bind (g := F.place _) (fun _ => ?_) (F.bd_place _)
  all_goals refine qt_all (all_leaf (fun _ => ?_) _)
  all_goals exact (by decide : ¬ (true = false))
theorem qt_union (x y : Int) : Qt (fun r => r.1 = false) (F.union x y) := by
  unfold union
  repeat' first | exact qt_bd (bd_pure _) | with_reducible refine qt_ite ?_ ?_ | with_reducible refine qt_bind (g := F.both _ _) (fun _ => ?_) (F.bd_both _ _) | exact F.qt_join _ _
theorem qt_undo : Qt (fun r => r.1 = false) F.undo := by
  unfold undo
  repeat' first | exact qt_bd (bd_pure _) | with_reducible refine qt_ite ?_ ?_ | with_reducible refine qt_bind (g := Pg.gt _) (fun _ => ?_) (bd_gt0 _) | with_reducible refine qt_bind (g := F.place _) (fun _ => ?_) (F.bd_place _) | with_reducible refine qt_bind (g := F.many) (fun _ => ?_) F.bd_many
  refine qt_all ?_
  repeat' refine all_leaf (fun _ => ?_) _
  exact (by decide : ¬ (true = false))
end Fo
end Sim

