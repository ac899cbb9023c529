import Derived.Test.YtjapaghhgpaldaaGreatDoorRows
import Derived.Test.YtjapaghhgpaldaaGreatDoorTie
import Derived.Test.YtjapaghhgpaldaaGreatDoorCards
import Derived.SevenTiedAt
import Derived.OpenShut
import Derived.Handed
import Derived.Lib.LaidTab
import Derived.Test.YtjapaghhgpaldaaGreatDoorPart5
import Derived.Test.YtjapaghhgpaldaaGreatDoorKit
import Derived.Test.YtjapaghhgpaldaaGreatDoorPart3
/- Lemmas and walks for the claims of this seat (own work): Fi6 Re0 Re1 Gr0 Gd0 Nm0 Rn0 Rn1. -/
namespace Sim
open Go Go.Vc
theorem lookK_none {s : ByteArray} : ∀ {l : List (ByteArray × ByteArray)}, inS (l.map (·.1)) s = false → lookK l s = none
  | [], _ => rfl
  | d :: l, h => by
    simp only [inS, List.map_cons, List.any_cons, Bool.or_eq_false_iff] at h
    rw [lookK, if_neg (by simpa using h.1)]
    exact lookK_none h.2
theorem freshN_in {met more : List ByteArray} {s : ByteArray} (h : freshN met s more = 0) : inS met s = false := by
  unfold freshN at h
  split at h
  · omega
  · split at h
    · omega
    · rename_i h2; simpa using h2
theorem wrongD_fresh {l : List (ByteArray × ByteArray)} (h : wrongD [] l = 0) : ∀ (j : Nat), j ≤ l.length → wrongD ((l.take j).map (·.1)) (l.drop j) = 0
  | 0, _ => h
  | j + 1, hj => by
    have ih := wrongD_fresh h j (by omega)
    obtain ⟨x, hx⟩ : ∃ x, l[j]? = some x := ⟨_, List.getElem?_eq_getElem (by omega)⟩
    rw [wrongD_drop hx] at ih
    by_cases h0 : freshN ((l.take j).map (·.1)) x.1 [x.2] = 0
    · rw [if_neg (by omega)] at ih
      rw [take_snoc hx, List.map_append]
      exact ih
    · rw [if_pos h0] at ih; exact absurd ih h0
theorem kS_next {l : List (ByteArray × ByteArray)} {j : Nat} {x : ByteArray × ByteArray} (h : wrongD [] l = 0) (hx : l[j]? = some x) : insS (kS (l.take j)) x.1 (.string x.2) = kS (l.take (j + 1)) := by
  have hj := (List.getElem?_eq_some_iff.1 hx).1
  have h1 := wrongD_fresh h j (by omega)
  rw [wrongD_drop hx] at h1
  have h0 : freshN ((l.take j).map (·.1)) x.1 [x.2] = 0 := by
    by_cases h0 : freshN ((l.take j).map (·.1)) x.1 [x.2] = 0
    · exact h0
    · rw [if_pos h0] at h1; exact absurd h1 h0
  rw [insS_none _ _ _ (by rw [lookK_S, lookK_none (freshN_in h0)]; rfl), take_snoc hx]
  simp [kS]
theorem wrongO_body {met : List ByteArray} {o : PO} (h : wrongO met o = 0) : wrongSs o.body 1 = 0 := by
  unfold wrongO at h
  split at h
  · rename_i h1; exact absurd h h1
  · split at h
    · omega
    · split at h
      · rename_i h1; exact absurd h h1
      · exact h
theorem wrongOs_mem : ∀ {l : List PO} {met : List ByteArray}, wrongOs met l = 0 → ∀ o ∈ l, wrongSs o.body 1 = 0
  | [], _, _, o, ho => by simp at ho
  | x :: l, met, h, o, ho => by
    rw [wrongOs] at h
    by_cases h1 : wrongO met x = 0
    · rw [if_neg (by omega)] at h
      rcases List.mem_cons.1 ho with rfl | ho
      · exact wrongO_body h1
      · exact wrongOs_mem h o ho
    · rw [if_pos h1] at h; exact absurd h h1
theorem checkP_zero {p : PP'} (h : checkP p = 0) : p.stores.length ≤ 12 ∧ p.opers.length ≤ 32 ∧ wrongD [] p.stores = 0 ∧ wrongOs [] p.opers = 0 := by
  unfold checkP at h
  split at h
  · omega
  · split at h
    · rename_i h1; exact absurd h h1
    · rename_i h1 h2; exact ⟨by omega, by omega, by simpa using h2, h⟩
end Sim
namespace Go.Proofs.YtjapaghhgpaldaaGreatDoor
open Go.Vc Sim
def OSpec (w0 : World) (sh : Shared) (v : Value) (oper : ByteArray) (r : Ef × Int) : Prop :=
  Vc.Fn PP w0 sh 10 [v, .string oper] [] (fun x Γ => ∃ q : P6, x = .tuple #[efV q r.1, .int .i64 r.2] ∧ Γ = [rdV w0 (efV q r.1) r.1])
set_option maxHeartbeats 4000000 in
theorem of_spec (w0 : World) (hk : KwOk w0) (sh : Shared) (v : Value) (p : PP') (oper : ByteArray) (hp : RdP w0 sh v p) (hs : PP'.small p) (hb : ∀ o ∈ p.opers, PS.sizeL o.body ≤ 10000) : OSpec w0 sh v oper (ofP p oper) := by
  have hck := check_spec w0 hk sh v p hp hs
  have hfd := find_spec w0 sh v p oper hp hs.2.1
  unfold OSpec
  obtain ⟨vs, vo, hv, h1, h2⟩ := hp
  subst hv
  obtain ⟨a1, c1, hvs, hc1, _⟩ := id h1
  obtain ⟨a2, c2, hvo, hc2⟩ := h2.len
  subst hvs; subst hvo
  by_cases hC : checkP p = 0
  · obtain ⟨z1, z2, z3, z4⟩ := checkP_zero hC
    rw [hC] at hck
    cases hF : findP p oper with
    | none =>
      have ho : ofP p oper = (zeroE, 10) := by unfold ofP; rw [if_neg (by omega), hF]
      rw [ho]
      rw [hF] at hfd
      dsimp only at hfd ⊢
      refine fn_of_run en10 fn10 rfl rfl rfl ?_
      repeat (first | refine zck ?_ | refine zcl ?_ | refine zcm ?_ | refine zcn ?_)
      first | refine zcp (by kernel_rfl) ?_ | refine zcq PP_mixed (by kernel_rfl) (by kernel_rfl) ?_
      repeat' (refine zap rfl ?_; first | refine zan rfl ?_ | refine zaq (cs := [_, _]) rfl (fun nb => ?_) | refine zar (fun nb => ?_))
      all_goals refine zch ?_
      all_goals repeat (first | refine zck ?_ | refine zcl ?_ | refine zcm ?_ | refine zcn ?_)
      refine run_share [0] rfl ?_
      repeat' (first | refine zck ?_ | refine zcp (by kernel_rfl) ?_ | refine zcm ?_ | (refine zap rfl ?_; first | refine zan rfl ?_ | refine zan rfl ?_ | refine zaa 0 rfl rfl rfl ?_ | refine zah [] hck rfl rfl rfl (fun p hp => by simp [hp]) rfl ?_ | (refine zai [] hfd rfl rfl rfl (fun p hp => by simp [hp]) ?_; rintro v Γ ⟨rfl, rfl⟩) | refine zce rfl ?_ | refine zan rfl ?_ | refine zbf rfl rfl (by omega) ?_ | refine zbx rfl ?_ | refine zae 0 rfl rfl rfl rfl rfl rfl rfl ?_ | refine zae 1 rfl rfl rfl rfl rfl rfl rfl ?_ | refine zar (fun nb => ?_) | refine zcb rfl ?_) | refine zch ?_ | refine zci rfl ?_ | refine zcj rfl ?_)
      refine run_emptyR (fun bl => RdEfV w0 bl (efV p0 zeroE) zeroE) RdEfV.zero ?_
      exact run_ret (leaves_nil (ends_take [0] rfl (ends_two rfl (resOk_pt 1 rfl rfl rfl) rfl ⟨rfl, p0, rfl, rfl⟩)))
    | some o =>
      rw [hF] at hfd
      dsimp only at hfd
      have hom : o ∈ p.opers := List.mem_of_find?_eq_some hF
      have hwb := wrongOs_mem z4 o hom
      have hbo := hb o hom
      have ho : ofP p oper = if (stmtEs p.stores o.body zeroE 0).2 ≠ 0 then (zeroE, (stmtEs p.stores o.body zeroE 0).2) else ((stmtEs p.stores o.body zeroE 0).1, 0) := by unfold ofP; rw [if_neg (by omega), hF]
      rw [ho]
      refine fn_of_run en10 fn10 rfl rfl rfl ?_
      repeat (first | refine zck ?_ | refine zcl ?_ | refine zcm ?_ | refine zcn ?_)
      first | refine zcp (by kernel_rfl) ?_ | refine zcq PP_mixed (by kernel_rfl) (by kernel_rfl) ?_
      repeat' (refine zap rfl ?_; first | refine zan rfl ?_ | refine zaq (cs := [_, _]) rfl (fun nb => ?_) | refine zar (fun nb => ?_))
      all_goals refine zch ?_
      all_goals repeat (first | refine zck ?_ | refine zcl ?_ | refine zcm ?_ | refine zcn ?_)
      refine run_share [0] rfl ?_
      obtain ⟨b4, hb4⟩ : ∃ b, b = nb := ⟨_, rfl⟩
      subst hb4
      repeat (first | refine zck ?_ | refine zcl ?_ | refine zcm ?_ | refine zcn ?_)
      first | refine zcp (by kernel_rfl) ?_ | refine zcq PP_mixed (by kernel_rfl) (by kernel_rfl) ?_
      repeat' (refine zap rfl ?_; first | refine zan rfl ?_ | refine zaa 0 rfl rfl rfl ?_ | refine zah [] hck rfl rfl rfl (fun p hp => by simp [hp]) rfl ?_ | refine zce rfl ?_ | refine zao rfl ?_)
      all_goals refine zch ?_
      all_goals repeat (first | refine zck ?_ | refine zcl ?_ | refine zcm ?_ | refine zcn ?_)
      repeat (first | refine zck ?_ | refine zcl ?_ | refine zcm ?_ | refine zcn ?_)
      first | refine zcp (by kernel_rfl) ?_ | refine zcq PP_mixed (by kernel_rfl) (by kernel_rfl) ?_
      repeat' (refine zap rfl ?_; first | refine zan rfl ?_ | refine zbf rfl rfl (by omega) ?_)
      all_goals refine zch ?_
      all_goals repeat (first | refine zck ?_ | refine zcl ?_ | refine zcm ?_ | refine zcn ?_)
      refine zcj rfl ?_
      repeat (first | refine zck ?_ | refine zcl ?_ | refine zcm ?_ | refine zcn ?_)
      first | refine zcp (by kernel_rfl) ?_ | refine zcq PP_mixed (by kernel_rfl) (by kernel_rfl) ?_
      repeat' (refine zap rfl ?_; first | refine zan rfl ?_ | refine zan rfl ?_ | refine zaa 0 rfl rfl rfl ?_ | (refine zai [] hfd rfl rfl rfl (fun p hp => by simp [hp]) ?_; rintro v Γ ⟨rfl, v, rfl, cs, rfl, vp, vb, rfl, r1, r2⟩; obtain ⟨a3, c3, hvp, _⟩ := id r1; obtain ⟨a4, c4, hvb, _⟩ := r2.len; subst hvp; subst hvb) | refine zce rfl ?_ | refine zan rfl ?_ | refine zae 1 rfl rfl rfl rfl rfl rfl rfl ?_ | refine zar (fun nb => ?_))
      all_goals refine zch ?_
      all_goals repeat (first | refine zck ?_ | refine zcl ?_ | refine zcm ?_ | refine zcn ?_)
      obtain ⟨b7, hb7⟩ : ∃ b, b = nb := ⟨_, rfl⟩
      subst hb7
      repeat (first | refine zck ?_ | refine zcl ?_ | refine zcm ?_ | refine zcn ?_)
      first | refine zcp (by kernel_rfl) ?_ | refine zcq PP_mixed (by kernel_rfl) (by kernel_rfl) ?_
      repeat' (refine zap rfl ?_; first | refine zan rfl ?_ | refine zbx rfl ?_)
      all_goals refine zch ?_
      all_goals repeat (first | refine zck ?_ | refine zcl ?_ | refine zcm ?_ | refine zcn ?_)
      refine zcj rfl ?_
      repeat (first | refine zck ?_ | refine zcl ?_ | refine zcm ?_ | refine zcn ?_)
      first | refine zcp (by kernel_rfl) ?_ | refine zcq PP_mixed (by kernel_rfl) (by kernel_rfl) ?_
      repeat' (refine zap rfl ?_; first | refine zcc (fun m => ?_) | refine zan rfl ?_ | refine zaq (cs := [_, _]) rfl (fun nb => ?_) | refine zcb rfl ?_)
      all_goals refine zch ?_
      all_goals repeat (first | refine zck ?_ | refine zcl ?_ | refine zcm ?_ | refine zcn ?_)
      obtain ⟨fb, hfb⟩ : ∃ b, b = nb := ⟨_, rfl⟩
      subst hfb
      refine run_exch 2 (MapS m (kS [])) rfl (mapS_make m) rfl ?_
      repeat (first | refine zck ?_ | refine zcl ?_ | refine zcm ?_ | refine zcn ?_)
      first | refine zcp (by kernel_rfl) ?_ | refine zcq PP_mixed (by kernel_rfl) (by kernel_rfl) ?_
      repeat' (refine zap rfl ?_; first | refine zan rfl ?_ | refine zaa 0 rfl rfl rfl ?_ | refine zce rfl ?_ | refine zao rfl ?_)
      all_goals refine zch ?_
      all_goals repeat (first | refine zck ?_ | refine zcl ?_ | refine zcm ?_ | refine zcn ?_)
      refine run_loop (S := Nat) (fun j => [(4, .pointer (some ⟨b4, 0, none⟩)), (7, .pointer (some ⟨b7, 0, none⟩)), (9, .pointer (some ⟨fb, 0, none⟩)), (32, .slice a1 p.stores.length c1), (33, .int .i64 p.stores.length), (34, .int .i64 j)])
        (fun j Γ => Γ = [ePt b4 p0 zeroE, pt b7 (.cells (List.toArray [.string o.name, .slice a3 o.params.length c3, .slice a4 o.body.length c4]) 37 (0, 0)), MapS m (kS (p.stores.take j)), fPt fb m 0] ∧ j ≤ p.stores.length) (fun j => p.stores.length - j) 0
        ⟨rfl, rfl, rfl, rfl, rfl, rfl, trivial⟩ ⟨rfl, by omega⟩ ?_
      rintro j Γ junk ⟨rfl, q1⟩
      by_cases hj : j < p.stores.length
      · obtain ⟨x, hx⟩ : ∃ x, p.stores[j]? = some x := ⟨_, List.getElem?_eq_getElem hj⟩
        obtain ⟨b, off, cc, T, fr, rfl, e2, e3, _⟩ := h1.cells hx
        have hnx := kS_next z3 hx
        have hput : ∀ A B C D : Asn, putAt 2 (MapS m (insS (kS (p.stores.take j)) x.1 (.string x.2))) [A, B, MapS m (kS (p.stores.take j)), C, D] = some [A, B, MapS m (kS (p.stores.take (j + 1))), C, D] := fun A B C D => by rw [hnx]; rfl
        repeat' (first | refine zck ?_ | refine zcp (by kernel_rfl) ?_ | refine run_drawR PP_mixed (by kernel_rfl) (by kernel_rfl) ?_ | refine zcm ?_ | refine zcl ?_ | refine zcn ?_ | (refine zap rfl ?_; first | refine zad rfl (fun hF Γ w h1 h2 => e2 hF Γ w (fun p hp => h1 p (by simp [hp])) h2) (e3 _ (by omega)) ?_ | refine reg_mapUpdateS 2 (u := .string x.2) rfl rfl rfl rfl (hput _ _ _ _) ?_ | refine zan rfl ?_ | refine zab 3 rfl rfl rfl ?_ | refine zab 4 rfl rfl rfl ?_ | refine zao rfl ?_ | refine zbg rfl rfl (by omega) ?_ | refine zau rfl rfl (by omega) ?_ | refine zae 4 rfl rfl rfl rfl rfl rfl rfl ?_ | refine zan rfl ?_ | refine zas rfl rfl (by omega) ?_ | refine zar (fun nb => ?_)) | refine zch ?_ | refine zci rfl ?_)
        refine run_take [0, 0, 0, 0] rfl ?_
        exact cut_end ⟨rfl, j + 1, ⟨rfl, rfl, rfl, rfl, rfl, int_eq (by omega), trivial⟩, ⟨rfl, by omega⟩, by omega⟩
      · have hjl : j = p.stores.length := by omega
        subst hjl
        rw [List.take_length]
        repeat' (first | refine zck ?_ | refine zcp (by kernel_rfl) ?_ | (refine zap rfl ?_; first | refine zbh rfl rfl (by omega) ?_) | refine zch ?_ | refine zcj rfl ?_)
        refine cut_exit rfl rfl ?_
        refine run_shareM [2] rfl ?_
        intro sh' hsub hR
        have hall := all_spec w0 p.stores sh' m fb 0 _ o.body 1 hbo (r2.mono fun p hp => hsub p (by simp [hp])) hR hwb
        repeat (first | refine zck ?_ | refine zcl ?_ | refine zcm ?_ | refine zcn ?_)
        first | refine zcp (by kernel_rfl) ?_ | refine zcq PP_mixed (by kernel_rfl) (by kernel_rfl) ?_
        repeat' (refine zap rfl ?_; first | refine zan rfl ?_ | refine zab 1 rfl rfl rfl ?_ | (refine zai [2] hall rfl rfl rfl (fun _ h => h) ?_; rintro v Γ ⟨q, rfl, rfl⟩) | refine zao rfl ?_ | refine zae 4 rfl rfl rfl rfl rfl rfl rfl ?_ | refine zar (fun nb => ?_))
        all_goals refine zch ?_
        all_goals repeat (first | refine zck ?_ | refine zcl ?_ | refine zcm ?_ | refine zcn ?_)
        generalize stmtEs p.stores o.body zeroE 0 = O at *
        obtain ⟨E, W⟩ := O
        dsimp only at *
        by_cases hW : W = 0
        · subst hW
          rw [if_neg (by decide)]
          dsimp only
          repeat' (first | refine zck ?_ | refine zcp (by kernel_rfl) ?_ | refine zcm ?_ | (refine zap rfl ?_; first | refine zan rfl ?_ | refine zan rfl ?_ | refine zab 1 rfl rfl rfl ?_ | refine zab 4 rfl rfl rfl ?_ | refine zao rfl ?_ | refine zbf rfl rfl (by omega) ?_ | refine zae 2 rfl rfl rfl rfl rfl rfl rfl ?_ | refine zan rfl ?_) | refine zch ?_ | refine zcj rfl ?_)
          exact run_ret (leaves_nil (ends_take [0] rfl (ends_two rfl (resOk_pt 2 rfl rfl rfl) rfl ⟨rfl, q, rfl, rfl⟩)))
        · rw [if_pos hW]
          dsimp only
          repeat (first | refine zck ?_ | refine zcl ?_ | refine zcm ?_ | refine zcn ?_)
          first | refine zcp (by kernel_rfl) ?_ | refine zcq PP_mixed (by kernel_rfl) (by kernel_rfl) ?_
          repeat' (refine zap rfl ?_; first | refine zan rfl ?_ | refine zab 1 rfl rfl rfl ?_ | refine zao rfl ?_ | refine zbe rfl rfl (by omega) ?_ | refine zan rfl ?_)
          all_goals refine zch ?_
          all_goals repeat (first | refine zck ?_ | refine zcl ?_ | refine zcm ?_ | refine zcn ?_)
          refine zci rfl ?_
          refine run_share [1] rfl ?_
          repeat' (first | refine zck ?_ | refine zcq PP_mixed (by kernel_rfl) (by kernel_rfl) ?_ | (refine zap rfl ?_; first | refine zan rfl ?_ | refine zan rfl ?_ | refine zaa 0 rfl rfl rfl ?_ | refine zao rfl ?_ | refine zae 1 rfl rfl rfl rfl rfl rfl rfl ?_ | refine zan rfl ?_ | refine zcb rfl ?_) | refine zch ?_)
          refine run_emptyR (fun bl => RdEfV w0 bl (efV p0 zeroE) zeroE) RdEfV.zero ?_
          exact run_ret (leaves_nil (ends_take [0] rfl (ends_two rfl (resOk_pt 2 rfl rfl rfl) rfl ⟨rfl, p0, rfl, rfl⟩)))
  · have ho : ofP p oper = (zeroE, checkP p) := by unfold ofP; rw [if_pos hC]
    rw [ho]
    dsimp only
    refine fn_of_run en10 fn10 rfl rfl rfl ?_
    repeat (first | refine zck ?_ | refine zcl ?_ | refine zcm ?_ | refine zcn ?_)
    first | refine zcp (by kernel_rfl) ?_ | refine zcq PP_mixed (by kernel_rfl) (by kernel_rfl) ?_
    repeat' (refine zap rfl ?_; first | refine zan rfl ?_ | refine zaq (cs := [_, _]) rfl (fun nb => ?_) | refine zar (fun nb => ?_))
    all_goals refine zch ?_
    all_goals repeat (first | refine zck ?_ | refine zcl ?_ | refine zcm ?_ | refine zcn ?_)
    refine run_share [0] rfl ?_
    repeat' (first | refine zck ?_ | refine zcp (by kernel_rfl) ?_ | (refine zap rfl ?_; first | refine zan rfl ?_ | refine zan rfl ?_ | refine zaa 0 rfl rfl rfl ?_ | refine zah [] hck rfl rfl rfl (fun p hp => by simp [hp]) rfl ?_ | refine zce rfl ?_ | refine zbe rfl rfl (by omega) ?_ | refine zae 0 rfl rfl rfl rfl rfl rfl rfl ?_ | refine zcb rfl ?_) | refine zch ?_ | refine zci rfl ?_)
    refine run_emptyR (fun bl => RdEfV w0 bl (efV p0 zeroE) zeroE) RdEfV.zero ?_
    exact run_ret (leaves_nil (ends_take [0] rfl (ends_two rfl (resOk_pt 1 rfl rfl rfl) rfl ⟨rfl, p0, rfl, rfl⟩)))
end Go.Proofs.YtjapaghhgpaldaaGreatDoor

namespace Sim
def sameE (a b : Ef) : Bool := decide (a.reads = b.reads) && decide (a.writes = b.writes) && decide (a.hosts = b.hosts) && decide (a.calls = b.calls)
theorem sameE_self (a : Ef) : sameE a a = true := by simp [sameE]
end Sim
namespace Go.Proofs.YtjapaghhgpaldaaGreatDoor
open Go.Vc Sim
theorem sameNames_spec (w0 : World) (sh : Shared) (va vb : Value) (a b : List ByteArray) (ha : RdSl w0 sh encY 1 va a) (hb : RdSl w0 sh encY 1 vb b) (hn : a.length ≤ 1099511627776) (hn2 : b.length ≤ 1099511627776) :
    FnE PP w0 sh 30 [va, vb] [] (.bool (decide (a = b))) [] := by
  obtain ⟨x1, y1, rfl⟩ := ha.val
  obtain ⟨x2, y2, rfl⟩ := hb.val
  refine fn_of_run en30 fn30 rfl rfl rfl ?_
  by_cases hl : a.length = b.length
  · repeat' (first | refine zck ?_ | refine zcp (by kernel_rfl) ?_ | refine zcm ?_ | refine zcl ?_ | (refine zap rfl ?_; first | refine zan rfl ?_ | refine zan rfl ?_ | refine zce rfl ?_ | refine zbf rfl rfl (by omega) ?_) | refine zch ?_ | refine zcj rfl ?_)
    refine run_loop (S := Nat) (fun j => [(0, .slice x1 a.length y1), (1, .slice x2 b.length y2), (5, .int .i64 j)]) (fun j Γ => Γ = [] ∧ j ≤ a.length ∧ a.take j = b.take j) (fun j => a.length - j) 0 ⟨rfl, rfl, rfl, trivial⟩ ⟨rfl, by omega, rfl⟩ ?_
    rintro j Γ junk ⟨rfl, g1, g2⟩
    by_cases hj : j < a.length
    · obtain ⟨x, hx⟩ : ∃ x, a[j]? = some x := ⟨_, List.getElem?_eq_getElem hj⟩
      obtain ⟨y, hy⟩ : ∃ y, b[j]? = some y := ⟨_, List.getElem?_eq_getElem (by omega)⟩
      obtain ⟨b1, o1, k1, T1, f1, rfl, e2, _, e3⟩ := ha.cells hx
      obtain ⟨b2, o2, k2, T2, f2, rfl, g3, _, g4⟩ := hb.cells hy
      have r1 : ∀ o, o = o1 + j * 1 + 0 → rd false 1 k1.toList o = some (.string x) := fun o ho => e3 0 _ rfl o ho
      have r2 : ∀ o, o = o2 + j * 1 + 0 → rd false 1 k2.toList o = some (.string y) := fun o ho => g4 0 _ rfl o ho
      by_cases hxy : x = y
      · subst hxy
        repeat' (first | refine zck ?_ | refine zcp (by kernel_rfl) ?_ | refine zcq PP_mixed (by kernel_rfl) (by kernel_rfl) ?_ | refine zcm ?_ | refine zcl ?_ | refine zcn ?_ | (refine zap rfl ?_; first | refine zad rfl e2 (r1 _ (by omega)) ?_ | refine zad rfl g3 (r2 _ (by omega)) ?_ | refine reg_neSF rfl rfl rfl ?_ | refine zan rfl ?_ | refine zan rfl ?_ | refine zce rfl ?_ | refine zbg rfl rfl (by omega) ?_ | refine zau rfl rfl (by omega) ?_ | refine zas rfl rfl (by omega) ?_) | refine zch ?_ | refine zci rfl ?_ | refine zcj rfl ?_)
        exact cut_end ⟨rfl, j + 1, ⟨rfl, rfl, int_eq (by omega), trivial⟩, ⟨rfl, by omega, by rw [take_snoc hx, take_snoc hy, g2]⟩, by omega⟩
      · have hne : ¬ a = b := fun e => by subst e; rw [hx] at hy; exact hxy (Option.some.inj hy)
        repeat' (first | refine zck ?_ | refine zcp (by kernel_rfl) ?_ | refine zcq PP_mixed (by kernel_rfl) (by kernel_rfl) ?_ | refine zcm ?_ | refine zcl ?_ | (refine zap rfl ?_; first | refine zad rfl e2 (r1 _ (by omega)) ?_ | refine zad rfl g3 (r2 _ (by omega)) ?_ | refine reg_neST rfl rfl hxy ?_ | refine zan rfl ?_ | refine zan rfl ?_ | refine zce rfl ?_ | refine zbg rfl rfl (by omega) ?_ | refine zas rfl rfl (by omega) ?_) | refine zch ?_ | refine zci rfl ?_)
        exact qret1 (fun _ _ h => h) rfl ⟨by rw [decide_eq_false hne]; rfl, rfl⟩
    · have he : a = b := by
        rw [List.take_of_length_le (by omega), List.take_of_length_le (by omega)] at g2
        exact g2
      repeat' (first | refine zck ?_ | refine zcp (by kernel_rfl) ?_ | (refine zap rfl ?_; first | refine zan rfl ?_ | refine zce rfl ?_ | refine zbh rfl rfl (by omega) ?_) | refine zch ?_ | refine zcj rfl ?_)
      refine cut_exit rfl rfl ?_
      repeat' (first | refine zck ?_ | refine zcp (by kernel_rfl) ?_ | (refine zap rfl ?_; first | refine zan rfl ?_) | refine zch ?_)
      exact ret_tmp1 rfl ⟨by rw [decide_eq_true he]; rfl, rfl⟩
  · have hne : ¬ a = b := fun e => hl (by rw [e])
    repeat' (first | refine zck ?_ | refine zcp (by kernel_rfl) ?_ | (refine zap rfl ?_; first | refine zan rfl ?_ | refine zan rfl ?_ | refine zce rfl ?_ | refine zbe rfl rfl (by omega) ?_) | refine zch ?_ | refine zci rfl ?_)
    exact ret_tmp1 rfl ⟨by rw [decide_eq_false hne]; rfl, rfl⟩
theorem same_spec (w0 : World) (sh : Shared) (va vb : Value) (a b : Ef) (ha : RdEfV w0 sh va a) (hb : RdEfV w0 sh vb b) (sa : a.sm 1000000) (sb : b.sm 1000000) :
    FnE PP w0 sh 13 [va, vb] [] (.bool (sameE a b)) [] := by
  obtain ⟨_, rfl, v1, v2, v3, rfl, h1, h2, h3⟩ := ha
  obtain ⟨_, rfl, u1, u2, u3, rfl, g1, g2, g3⟩ := hb
  obtain ⟨s1, s2, s3⟩ := sa
  obtain ⟨t1, t2, t3⟩ := sb
  have c1 := sameNames_spec w0 sh _ _ _ _ h1 g1 (by omega) (by omega)
  have c2 := sameNames_spec w0 sh _ _ _ _ h2 g2 (by omega) (by omega)
  have c3 := sameNames_spec w0 sh _ _ _ _ h3 g3 (by omega) (by omega)
  unfold sameE
  obtain ⟨a1, d1, rfl⟩ := h1.val
  obtain ⟨a2, d2, rfl⟩ := h2.val
  obtain ⟨a3, d3, rfl⟩ := h3.val
  obtain ⟨b1, e1, rfl⟩ := g1.val
  obtain ⟨b2, e2, rfl⟩ := g2.val
  obtain ⟨b3, e3, rfl⟩ := g3.val
  refine fn_of_run en13 fn13 rfl rfl rfl ?_
  repeat (first | refine zck ?_ | refine zcl ?_ | refine zcm ?_ | refine zcn ?_)
  first | refine zcp (by kernel_rfl) ?_ | refine zcq PP_mixed (by kernel_rfl) (by kernel_rfl) ?_
  repeat' (refine zap rfl ?_; first | refine zan rfl ?_ | refine zaq (cs := [_, _, _, _]) rfl (fun nb => ?_))
  all_goals refine zch ?_
  all_goals repeat (first | refine zck ?_ | refine zcl ?_ | refine zcm ?_ | refine zcn ?_)
  refine run_share [0] rfl ?_
  refine run_share [0] rfl ?_
  cases q1 : decide (a.reads = b.reads) with
  | false =>
    rw [q1] at c1
    repeat' (first | refine zcp (by kernel_rfl) ?_ | (refine zap rfl ?_; first | refine zak rfl ?_ | refine zan rfl ?_ | refine zan rfl ?_ | refine zaa 0 rfl rfl rfl ?_ | refine zaa 1 rfl rfl rfl ?_ | refine zah [] c1 rfl rfl rfl (fun p hp => by simp [hp]) rfl ?_ | refine zao rfl ?_ | refine zbv rfl ?_) | refine zch ?_)
    exact ret_tmp1 rfl ⟨rfl, rfl⟩
  | true =>
    rw [q1] at c1
    cases q2 : decide (a.writes = b.writes) with
    | false =>
      rw [q2] at c2
      repeat' (first | refine zcp (by kernel_rfl) ?_ | (refine zap rfl ?_; first | refine zaj rfl ?_ | refine zak rfl ?_ | refine zan rfl ?_ | refine zan rfl ?_ | refine zaa 0 rfl rfl rfl ?_ | refine zaa 1 rfl rfl rfl ?_ | refine zah [] c1 rfl rfl rfl (fun p hp => by simp [hp]) rfl ?_ | refine zah [] c2 rfl rfl rfl (fun p hp => by simp [hp]) rfl ?_ | refine zao rfl ?_ | refine zbu rfl ?_ | refine zbv rfl ?_) | refine zch ?_)
      exact ret_tmp1 rfl ⟨rfl, rfl⟩
    | true =>
      rw [q2] at c2
      cases q3 : decide (a.hosts = b.hosts) with
      | false =>
        rw [q3] at c3
        repeat' (first | refine zcp (by kernel_rfl) ?_ | (refine zap rfl ?_; first | refine zaj rfl ?_ | refine zak rfl ?_ | refine zan rfl ?_ | refine zan rfl ?_ | refine zaa 0 rfl rfl rfl ?_ | refine zaa 1 rfl rfl rfl ?_ | refine zah [] c1 rfl rfl rfl (fun p hp => by simp [hp]) rfl ?_ | refine zah [] c2 rfl rfl rfl (fun p hp => by simp [hp]) rfl ?_ | refine zah [] c3 rfl rfl rfl (fun p hp => by simp [hp]) rfl ?_ | refine zao rfl ?_ | refine zbu rfl ?_ | refine zbv rfl ?_) | refine zch ?_)
        exact ret_tmp1 rfl ⟨rfl, rfl⟩
      | true =>
        rw [q3] at c3
        repeat' (first | refine zcp (by kernel_rfl) ?_ | (refine zap rfl ?_; first | refine zaj rfl ?_ | refine zan rfl ?_ | refine zan rfl ?_ | refine zaa 0 rfl rfl rfl ?_ | refine zaa 1 rfl rfl rfl ?_ | refine zah [] c1 rfl rfl rfl (fun p hp => by simp [hp]) rfl ?_ | refine zah [] c2 rfl rfl rfl (fun p hp => by simp [hp]) rfl ?_ | refine zah [] c3 rfl rfl rfl (fun p hp => by simp [hp]) rfl ?_ | refine zao rfl ?_ | refine zbo rfl rfl ?_ | refine zbu rfl ?_) | refine zch ?_)
        exact ret_tmp1 rfl ⟨rfl, rfl⟩
theorem ofE_spec (w0 : World) (p : P6) (e : Ef) : FnE PP w0 [] 14 [efV p e] [] (efV p e) [] := by
  refine fn_of_run en14 fn14 rfl rfl rfl ?_
  repeat' (first | refine zck ?_ | refine zcp (by kernel_rfl) ?_ | (refine zap rfl ?_; first | refine zab 0 rfl rfl rfl ?_ | refine zae 1 rfl rfl rfl rfl rfl rfl rfl ?_ | refine zaq (cs := [_, _, _, _]) rfl (fun nb => ?_) | refine zar (fun nb => ?_)) | refine zch ?_)
  exact run_ret (leaves_nil (ends_take [] rfl (ends_one rfl (resOk_pt 1 rfl rfl rfl) ⟨rfl, rfl, rfl⟩)))
set_option maxHeartbeats 1000000 in
theorem great_spec (w0 : World) (sh : Shared) (ve : Value) (e : Ef) (he : RdEfV w0 sh ve e) (hb : e.sm 1125899906842624) :
    Vc.Fn PP w0 sh 17 [ve] [] (fun v Γ => Γ = [] ∧ ∃ b, v = .bool b ∧ (b = false → e.sm 60)) := by
  obtain ⟨_, rfl, v1, v2, v3, rfl, h1, h2, h3⟩ := he
  obtain ⟨s1, s2, s3⟩ := hb
  obtain ⟨a1, d1, rfl⟩ := h1.val
  obtain ⟨a2, d2, rfl⟩ := h2.val
  obtain ⟨a3, d3, rfl⟩ := h3.val
  refine fn_of_run en17 fn17 rfl rfl rfl ?_
  repeat (first | refine zck ?_ | refine zcl ?_ | refine zcm ?_ | refine zcn ?_)
  first | refine zcp (by kernel_rfl) ?_ | refine zcq PP_mixed (by kernel_rfl) (by kernel_rfl) ?_
  repeat' (refine zap rfl ?_; first | refine zan rfl ?_ | refine zaq (cs := [_, _, _, _]) rfl (fun nb => ?_))
  all_goals refine zch ?_
  all_goals repeat (first | refine zck ?_ | refine zcl ?_ | refine zcm ?_ | refine zcn ?_)
  refine run_share [0] rfl ?_
  obtain ⟨b1, hb1⟩ : ∃ b, b = nb := ⟨_, rfl⟩
  subst hb1
  repeat (first | refine zck ?_ | refine zcl ?_ | refine zcm ?_ | refine zcn ?_)
  first | refine zcp (by kernel_rfl) ?_ | refine zcq PP_mixed (by kernel_rfl) (by kernel_rfl) ?_
  repeat' (refine zap rfl ?_; first | refine zan rfl ?_)
  all_goals refine zch ?_
  all_goals repeat (first | refine zck ?_ | refine zcl ?_ | refine zcm ?_ | refine zcn ?_)
  refine run_loop (S := Nat) (fun j => [(1, .pointer (some ⟨b1, 0, none⟩)), (3, .int .i64 j)]) (fun j Γ => Γ = [] ∧ j ≤ 60) (fun j => 60 - j) 0 ⟨rfl, rfl, trivial⟩ ⟨rfl, by omega⟩ ?_
  rintro j Γ junk ⟨rfl, g1⟩
  by_cases hj : j < e.reads.length + e.writes.length + e.hosts.length ∧ j < 60
  · obtain ⟨hj1, hj2⟩ := hj
    by_cases c1 : j < e.reads.length
    · obtain ⟨x, hx⟩ : ∃ x, e.reads[j]? = some x := ⟨_, List.getElem?_eq_getElem c1⟩
      obtain ⟨bb, o1, k1, T1, f1, rfl, e2, _, e3⟩ := h1.cells hx
      have r1 : ∀ o, o = o1 + j * 1 + 0 → rd false 1 k1.toList o = some (.string x) := fun o ho => e3 0 _ rfl o ho
      by_cases hx1 : 100 < x.size
      · repeat' (first | refine zck ?_ | refine zcp (by kernel_rfl) ?_ | refine zcm ?_ | refine zcl ?_ | (refine zap rfl ?_; first | refine zad rfl (fun hF Γ w h1 h2 => e2 hF Γ w (fun p hp => h1 p (by simp [hp])) h2) (r1 _ (by omega)) ?_ | refine zaj rfl ?_ | refine zan rfl ?_ | refine zan rfl ?_ | refine zaa 0 rfl rfl rfl ?_ | refine reg_lenS rfl ?_ | refine zce rfl ?_ | refine zao rfl ?_ | refine zbg rfl rfl (by omega) ?_ | refine zbk rfl rfl (by omega) ?_ | refine zau rfl rfl (by omega) ?_ | refine zbu rfl ?_ | refine zas rfl rfl (by omega) ?_) | refine zch ?_ | refine zci rfl ?_)
        exact qret1 (fun _ _ h => h) rfl ⟨rfl, true, rfl, fun h => by cases h⟩
      · repeat' (first | refine zck ?_ | refine zcp (by kernel_rfl) ?_ | refine zcm ?_ | refine zcl ?_ | refine zcn ?_ | (refine zap rfl ?_; first | refine zad rfl (fun hF Γ w h1 h2 => e2 hF Γ w (fun p hp => h1 p (by simp [hp])) h2) (r1 _ (by omega)) ?_ | refine zaj rfl ?_ | refine zan rfl ?_ | refine zan rfl ?_ | refine zaa 0 rfl rfl rfl ?_ | refine reg_lenS rfl ?_ | refine zce rfl ?_ | refine zao rfl ?_ | refine zbg rfl rfl (by omega) ?_ | refine zbl rfl rfl (by omega) ?_ | refine zau rfl rfl (by omega) ?_ | refine zbu rfl ?_ | refine zas rfl rfl (by omega) ?_) | refine zch ?_ | refine zci rfl ?_ | refine zcj rfl ?_)
        exact cut_end ⟨rfl, j + 1, ⟨rfl, int_eq (by omega), trivial⟩, ⟨rfl, by omega⟩, by omega⟩
    by_cases c2 : j < e.reads.length + e.writes.length
    · obtain ⟨x, hx⟩ : ∃ x, e.writes[j - e.reads.length]? = some x := ⟨_, List.getElem?_eq_getElem (by omega)⟩
      obtain ⟨bb, o1, k1, T1, f1, rfl, e2, _, e3⟩ := h2.cells hx
      have r1 : ∀ o, o = o1 + (j - e.reads.length) * 1 + 0 → rd false 1 k1.toList o = some (.string x) := fun o ho => e3 0 _ rfl o ho
      by_cases hx1 : 100 < x.size
      · repeat' (first | refine zck ?_ | refine zcp (by kernel_rfl) ?_ | refine zcm ?_ | refine zcl ?_ | (refine zap rfl ?_; first | refine zad rfl (fun hF Γ w h1 h2 => e2 hF Γ w (fun p hp => h1 p (by simp [hp])) h2) (r1 _ (by omega)) ?_ | refine zaj rfl ?_ | refine zan rfl ?_ | refine zan rfl ?_ | refine zaa 0 rfl rfl rfl ?_ | refine reg_lenS rfl ?_ | refine zce rfl ?_ | refine zao rfl ?_ | refine zbg rfl rfl (by omega) ?_ | refine zbh rfl rfl (by omega) ?_ | refine zbk rfl rfl (by omega) ?_ | refine zau rfl rfl (by omega) ?_ | refine zav rfl rfl (by omega) ?_ | refine zbu rfl ?_ | refine zas rfl rfl (by omega) ?_) | refine zch ?_ | refine zci rfl ?_ | refine zcj rfl ?_)
        exact qret1 (fun _ _ h => h) rfl ⟨rfl, true, rfl, fun h => by cases h⟩
      · repeat' (first | refine zck ?_ | refine zcp (by kernel_rfl) ?_ | refine zcm ?_ | refine zcl ?_ | refine zcn ?_ | (refine zap rfl ?_; first | refine zad rfl (fun hF Γ w h1 h2 => e2 hF Γ w (fun p hp => h1 p (by simp [hp])) h2) (r1 _ (by omega)) ?_ | refine zaj rfl ?_ | refine zan rfl ?_ | refine zan rfl ?_ | refine zaa 0 rfl rfl rfl ?_ | refine reg_lenS rfl ?_ | refine zce rfl ?_ | refine zao rfl ?_ | refine zbg rfl rfl (by omega) ?_ | refine zbh rfl rfl (by omega) ?_ | refine zbl rfl rfl (by omega) ?_ | refine zau rfl rfl (by omega) ?_ | refine zav rfl rfl (by omega) ?_ | refine zbu rfl ?_ | refine zas rfl rfl (by omega) ?_) | refine zch ?_ | refine zci rfl ?_ | refine zcj rfl ?_)
        exact cut_end ⟨rfl, j + 1, ⟨rfl, int_eq (by omega), trivial⟩, ⟨rfl, by omega⟩, by omega⟩
    · obtain ⟨x, hx⟩ : ∃ x, e.hosts[j - e.reads.length - e.writes.length]? = some x := ⟨_, List.getElem?_eq_getElem (by omega)⟩
      obtain ⟨bb, o1, k1, T1, f1, rfl, e2, _, e3⟩ := h3.cells hx
      have r1 : ∀ o, o = o1 + (j - e.reads.length - e.writes.length) * 1 + 0 → rd false 1 k1.toList o = some (.string x) := fun o ho => e3 0 _ rfl o ho
      by_cases hx1 : 100 < x.size
      · repeat' (first | refine zck ?_ | refine zcp (by kernel_rfl) ?_ | refine zcm ?_ | refine zcl ?_ | (refine zap rfl ?_; first | refine zad rfl (fun hF Γ w h1 h2 => e2 hF Γ w (fun p hp => h1 p (by simp [hp])) h2) (r1 _ (by omega)) ?_ | refine zaj rfl ?_ | refine zan rfl ?_ | refine zan rfl ?_ | refine zaa 0 rfl rfl rfl ?_ | refine reg_lenS rfl ?_ | refine zce rfl ?_ | refine zao rfl ?_ | refine zbg rfl rfl (by omega) ?_ | refine zbh rfl rfl (by omega) ?_ | refine zbk rfl rfl (by omega) ?_ | refine zau rfl rfl (by omega) ?_ | refine zav rfl rfl (by omega) ?_ | refine zbu rfl ?_ | refine zas rfl rfl (by omega) ?_) | refine zch ?_ | refine zci rfl ?_ | refine zcj rfl ?_)
        exact qret1 (fun _ _ h => h) rfl ⟨rfl, true, rfl, fun h => by cases h⟩
      · repeat' (first | refine zck ?_ | refine zcp (by kernel_rfl) ?_ | refine zcm ?_ | refine zcl ?_ | refine zcn ?_ | (refine zap rfl ?_; first | refine zad rfl (fun hF Γ w h1 h2 => e2 hF Γ w (fun p hp => h1 p (by simp [hp])) h2) (r1 _ (by omega)) ?_ | refine zaj rfl ?_ | refine zan rfl ?_ | refine zan rfl ?_ | refine zaa 0 rfl rfl rfl ?_ | refine reg_lenS rfl ?_ | refine zce rfl ?_ | refine zao rfl ?_ | refine zbg rfl rfl (by omega) ?_ | refine zbh rfl rfl (by omega) ?_ | refine zbl rfl rfl (by omega) ?_ | refine zau rfl rfl (by omega) ?_ | refine zav rfl rfl (by omega) ?_ | refine zbu rfl ?_ | refine zas rfl rfl (by omega) ?_) | refine zch ?_ | refine zci rfl ?_ | refine zcj rfl ?_)
        exact cut_end ⟨rfl, j + 1, ⟨rfl, int_eq (by omega), trivial⟩, ⟨rfl, by omega⟩, by omega⟩
  · by_cases hj1 : j < e.reads.length + e.writes.length + e.hosts.length
    · repeat' (first | refine zck ?_ | refine zcp (by kernel_rfl) ?_ | (refine zap rfl ?_; first | refine zaj rfl ?_ | refine zan rfl ?_ | refine zaa 0 rfl rfl rfl ?_ | refine zce rfl ?_ | refine zao rfl ?_ | refine zbg rfl rfl (by omega) ?_ | refine zbh rfl rfl (by omega) ?_ | refine zau rfl rfl (by omega) ?_ | refine zbu rfl ?_) | refine zch ?_ | refine zcj rfl ?_)
      refine cut_exit rfl rfl ?_
      repeat' (first | refine zck ?_ | refine zcp (by kernel_rfl) ?_ | (refine zap rfl ?_; first | refine zan rfl ?_ | refine zaa 0 rfl rfl rfl ?_ | refine zce rfl ?_ | refine zao rfl ?_ | refine zbk rfl rfl (by omega) ?_ | refine zau rfl rfl (by omega) ?_) | refine zch ?_)
      exact ret_tmp1 rfl ⟨rfl, true, rfl, fun h => by cases h⟩
    · repeat' (first | refine zck ?_ | refine zcp (by kernel_rfl) ?_ | (refine zap rfl ?_; first | refine zak rfl ?_ | refine zan rfl ?_ | refine zaa 0 rfl rfl rfl ?_ | refine zce rfl ?_ | refine zao rfl ?_ | refine zbh rfl rfl (by omega) ?_ | refine zau rfl rfl (by omega) ?_ | refine zbv rfl ?_) | refine zch ?_ | refine zcj rfl ?_)
      refine cut_exit rfl rfl ?_
      repeat' (first | refine zck ?_ | refine zcp (by kernel_rfl) ?_ | (refine zap rfl ?_; first | refine zan rfl ?_ | refine zaa 0 rfl rfl rfl ?_ | refine zce rfl ?_ | refine zao rfl ?_ | refine zau rfl rfl (by omega) ?_ | refine zbs rfl rfl ?_) | refine zch ?_)
      refine ret_tmp1 rfl ⟨rfl, _, rfl, fun h => ?_⟩
      have := of_decide_eq_false h
      exact ⟨by omega, by omega, by omega⟩
end Go.Proofs.YtjapaghhgpaldaaGreatDoor

namespace Sim
def awK : PE := .mk 2 0 (bs [107]) (bs []) [] []
def awGet : PE := .mk 6 0 (bs [98]) (bs [103, 101, 116]) [] []
def awOne : PE := .mk 0 1 (bs []) (bs []) [] []
def awZ : PE := .mk 0 0 (bs []) (bs []) [] []
def awPush : PS := .mk 2 (bs []) 0 (.mk 6 0 (bs [97]) (bs [112, 117, 115, 104]) [awGet] []) [] []
def awAdd : PS := .mk 2 (bs []) 0 (.mk 6 0 (bs [98]) (bs [97, 100, 100]) [awOne] []) [] []
def awHost : PS := .mk 2 (bs []) 0 (.mk 6 0 (bs [98]) (bs [97, 100, 100]) [.mk 7 0 (bs [100, 111, 117, 98, 108, 101]) (bs []) [awK] []] []) [] []
def awIf : PS := .mk 3 (bs []) 0 (.mk 5 0 (bs []) (bs [62]) [awK, awZ] []) [awPush] [awAdd]
def awRep : PS := .mk 4 (bs []) 3 awZ [awHost] []
def awO : PO := ⟨bs [102], [bs [107]], [awIf, awRep]⟩
def awP : PP' := ⟨[(bs [97], bs [115, 116, 97, 99, 107]), (bs [98], bs [99, 111, 117, 110, 116, 101, 114])], [awO]⟩
def awE : Ef := ⟨[bs [97], bs [98]], [bs [97], bs [98]], [bs [100, 111, 117, 98, 108, 101]], 5⟩
theorem awP_of : ofP awP (bs [102]) = (awE, 0) := by kernel_rfl
end Sim
namespace Go.Vc
open Sim
theorem RdC.of {w0 : World} {sh : Shared} {m b : Nat} {cl : List (List Value)} {T : TypeId} {fr : Nat × Nat} (hq : ∀ x ∈ cl, x.length = m) (h : (b, Obj.cells (List.toArray (cl.flatMap fun x => x)) T fr) ∈ sh) : RdC w0 sh m (.slice (some ⟨b, 0, none⟩) cl.length cl.length) cl :=
  RdSl.flat (encE := fun x : List Value => x) (q := m) (w0 := w0) (b := b) (l := cl) hq h
theorem RdEl.nil0 {w0 : World} {sh : Shared} : RdEl w0 sh (.slice none 0 0) [] := ⟨[], RdSl.nil, by unfold RdEs; rfl⟩
theorem RdSt.nil0 {w0 : World} {sh : Shared} : RdSt w0 sh (.slice none 0 0) [] := ⟨[], RdSl.nil, by unfold RdSs; rfl⟩
theorem RdEl.one {w0 : World} {sh : Shared} {b : Nat} {e : PE} {c : List Value} {T : TypeId} {fr : Nat × Nat} (he : RdE w0 sh e c) (hc : c.length = 6) (h : (b, Obj.cells (List.toArray (c ++ [])) T fr) ∈ sh) : RdEl w0 sh (.slice (some ⟨b, 0, none⟩) 1 1) [e] :=
  ⟨[c], RdC.of (cl := [c]) (fun x hx => by rw [List.mem_singleton.1 hx]; exact hc) h, by unfold RdEs; exact ⟨c, [], rfl, he, by unfold RdEs; rfl⟩⟩
theorem RdEl.two {w0 : World} {sh : Shared} {b : Nat} {e e' : PE} {c c' : List Value} {T : TypeId} {fr : Nat × Nat} (he : RdE w0 sh e c) (hc : c.length = 6) (he' : RdE w0 sh e' c') (hc' : c'.length = 6) (h : (b, Obj.cells (List.toArray (c ++ (c' ++ []))) T fr) ∈ sh) : RdEl w0 sh (.slice (some ⟨b, 0, none⟩) 2 2) [e, e'] :=
  ⟨[c, c'], RdC.of (cl := [c, c']) (fun x hx => by simp at hx; rcases hx with rfl | rfl <;> assumption) h, by unfold RdEs; exact ⟨c, [c'], rfl, he, by unfold RdEs; exact ⟨c', [], rfl, he', by unfold RdEs; rfl⟩⟩⟩
theorem RdSt.one {w0 : World} {sh : Shared} {b : Nat} {e : PS} {c : List Value} {T : TypeId} {fr : Nat × Nat} (he : RdS w0 sh e c) (hc : c.length = 11) (h : (b, Obj.cells (List.toArray (c ++ [])) T fr) ∈ sh) : RdSt w0 sh (.slice (some ⟨b, 0, none⟩) 1 1) [e] :=
  ⟨[c], RdC.of (cl := [c]) (fun x hx => by rw [List.mem_singleton.1 hx]; exact hc) h, by unfold RdSs; exact ⟨c, [], rfl, he, by unfold RdSs; rfl⟩⟩
theorem RdSt.two {w0 : World} {sh : Shared} {b : Nat} {e e' : PS} {c c' : List Value} {T : TypeId} {fr : Nat × Nat} (he : RdS w0 sh e c) (hc : c.length = 11) (he' : RdS w0 sh e' c') (hc' : c'.length = 11) (h : (b, Obj.cells (List.toArray (c ++ (c' ++ []))) T fr) ∈ sh) : RdSt w0 sh (.slice (some ⟨b, 0, none⟩) 2 2) [e, e'] :=
  ⟨[c, c'], RdC.of (cl := [c, c']) (fun x hx => by simp at hx; rcases hx with rfl | rfl <;> assumption) h, by unfold RdSs; exact ⟨c, [c'], rfl, he, by unfold RdSs; exact ⟨c', [], rfl, he', by unfold RdSs; rfl⟩⟩⟩
theorem RdS.of {w0 : World} {sh : Shared} {s : PS} {va vo vb ve : Value} (h1 : RdEl w0 sh va s.expr.args) (h2 : RdEl w0 sh vo s.expr.or) (h3 : RdSt w0 sh vb s.body) (h4 : RdSt w0 sh ve s.els) : RdS w0 sh s (psC s va vo vb ve) := by
  cases s
  obtain ⟨cl, g1, g2⟩ := h3
  obtain ⟨cl', g3, g4⟩ := h4
  have he := RdE.of h1 h2
  unfold RdS
  exact ⟨_, vb, ve, cl, cl', rfl, he, g1, g2, g3, g4⟩
theorem RdOl.one {w0 : World} {sh : Shared} {b : Nat} {o : PO} {c : List Value} {T : TypeId} {fr : Nat × Nat} (ho : RdO w0 sh o c) (hc : c.length = 3) (h : (b, Obj.cells (List.toArray (c ++ [])) T fr) ∈ sh) : RdOl w0 sh (.slice (some ⟨b, 0, none⟩) 1 1) [o] :=
  ⟨[c], RdC.of (cl := [c]) (fun x hx => by rw [List.mem_singleton.1 hx]; exact hc) h, c, [], rfl, ho, rfl⟩
end Go.Vc
namespace Go.Proofs.YtjapaghhgpaldaaGreatDoor
open Go.Vc Sim
set_option maxHeartbeats 4000000 in
theorem awake_spec (w0 : World) (hk : KwOk w0) : FnE PP w0 [] 9 [] [] (.bool true) [] := by
  refine fn_of_run en9 fn9 rfl rfl rfl ?_
  repeat (first | refine zck ?_ | refine zcl ?_ | refine zcm ?_ | refine zcn ?_)
  first | refine zcp (by kernel_rfl) ?_ | refine zcq PP_mixed (by kernel_rfl) (by kernel_rfl) ?_
  repeat' (refine zap rfl ?_; first | refine zan rfl ?_)
  all_goals refine zch ?_
  all_goals repeat (first | refine zck ?_ | refine zcl ?_ | refine zcm ?_ | refine zcn ?_)
  repeat (first | refine zck ?_ | refine zcl ?_ | refine zcm ?_ | refine zcn ?_)
  first | refine zcp (by kernel_rfl) ?_ | refine zcq PP_mixed (by kernel_rfl) (by kernel_rfl) ?_
  repeat' (refine zap rfl ?_; first | refine zar (fun t1 => ?_) | refine zae 0 rfl rfl rfl rfl rfl rfl rfl ?_ | refine zcb rfl ?_)
  all_goals refine zch ?_
  all_goals repeat (first | refine zck ?_ | refine zcl ?_ | refine zcm ?_ | refine zcn ?_)
  refine run_share [0] rfl ?_
  repeat (first | refine zck ?_ | refine zcl ?_ | refine zcm ?_ | refine zcn ?_)
  first | refine zcp (by kernel_rfl) ?_ | refine zcq PP_mixed (by kernel_rfl) (by kernel_rfl) ?_
  repeat' (refine zap rfl ?_; first | refine zar (fun t2 => ?_) | refine zae 0 rfl rfl rfl rfl rfl rfl rfl ?_ | refine zcb rfl ?_)
  all_goals refine zch ?_
  all_goals repeat (first | refine zck ?_ | refine zcl ?_ | refine zcm ?_ | refine zcn ?_)
  refine run_share [0] rfl ?_
  repeat (first | refine zck ?_ | refine zcl ?_ | refine zcm ?_ | refine zcn ?_)
  first | refine zcp (by kernel_rfl) ?_ | refine zcq PP_mixed (by kernel_rfl) (by kernel_rfl) ?_
  repeat' (refine zap rfl ?_; first | refine reg_buildSlice rfl rfl rfl rfl rfl rfl (fun s12 => ?_) | refine zar (fun t3 => ?_) | refine zaa 0 rfl rfl rfl ?_ | refine zae 1 rfl rfl rfl rfl rfl rfl rfl ?_ | refine zcb rfl ?_)
  all_goals refine zch ?_
  all_goals repeat (first | refine zck ?_ | refine zcl ?_ | refine zcm ?_ | refine zcn ?_)
  refine run_share [0] rfl ?_
  refine run_share [0] rfl ?_
  repeat (first | refine zck ?_ | refine zcl ?_ | refine zcm ?_ | refine zcn ?_)
  first | refine zcp (by kernel_rfl) ?_ | refine zcq PP_mixed (by kernel_rfl) (by kernel_rfl) ?_
  repeat' (refine zap rfl ?_; first | refine reg_buildSlice rfl rfl rfl rfl rfl rfl (fun s16 => ?_) | refine zar (fun t4 => ?_) | refine zae 1 rfl rfl rfl rfl rfl rfl rfl ?_ | refine zcb rfl ?_)
  all_goals refine zch ?_
  all_goals repeat (first | refine zck ?_ | refine zcl ?_ | refine zcm ?_ | refine zcn ?_)
  refine run_share [0] rfl ?_
  refine run_share [0] rfl ?_
  repeat (first | refine zck ?_ | refine zcl ?_ | refine zcm ?_ | refine zcn ?_)
  first | refine zcp (by kernel_rfl) ?_ | refine zcq PP_mixed (by kernel_rfl) (by kernel_rfl) ?_
  repeat' (refine zap rfl ?_; first | refine reg_buildSlice rfl rfl rfl rfl rfl rfl (fun s20 => ?_) | refine zar (fun t5 => ?_) | refine zaa 5 rfl rfl rfl ?_ | refine zae 2 rfl rfl rfl rfl rfl rfl rfl ?_ | refine zcb rfl ?_)
  all_goals refine zch ?_
  all_goals repeat (first | refine zck ?_ | refine zcl ?_ | refine zcm ?_ | refine zcn ?_)
  rename_i s20a
  refine run_share [0] rfl ?_
  refine run_share [0] rfl ?_
  refine run_share [0] rfl ?_
  repeat (first | refine zck ?_ | refine zcl ?_ | refine zcm ?_ | refine zcn ?_)
  first | refine zcp (by kernel_rfl) ?_ | refine zcq PP_mixed (by kernel_rfl) (by kernel_rfl) ?_
  repeat' (refine zap rfl ?_; first | refine zaa 8 rfl rfl rfl ?_ | refine zae 8 rfl rfl rfl rfl rfl rfl rfl ?_ | refine reg_buildSlice rfl rfl rfl rfl rfl rfl (fun s43 => ?_) | refine zar (fun t6 => ?_) | refine zaa 0 rfl rfl rfl ?_ | refine zaa 3 rfl rfl rfl ?_ | refine zaa 5 rfl rfl rfl ?_ | refine zcb rfl ?_)
  all_goals refine zch ?_
  all_goals repeat (first | refine zck ?_ | refine zcl ?_ | refine zcm ?_ | refine zcn ?_)
  rename_i s27 s28 s31 s34 s36 s39 s41
  refine run_share [0] rfl ?_
  refine run_share [0] rfl ?_
  refine run_share [0] rfl ?_
  refine run_share [0] rfl ?_
  refine run_share [0] rfl ?_
  refine run_share [0] rfl ?_
  refine run_share [0] rfl ?_
  refine run_share [0] rfl ?_
  refine run_share [0] rfl ?_
  refine run_nameSh ?_
  intro sh hsh
  have e0 : ∀ e : PE, e.args = [] → e.or = [] → RdE w0 sh e (peC e.kind e.num e.name e.meth (.slice none 0 0) (.slice none 0 0)) := fun e h1 h2 => RdE.of (by rw [h1]; exact RdEl.nil0) (by rw [h2]; exact RdEl.nil0)
  have l12 : RdEl w0 sh (.slice (some ⟨s12, 0, none⟩) 1 1) [awGet] := RdEl.one (e0 awGet rfl rfl) rfl (by rw [hsh]; repeat (first | exact List.Mem.head _ | refine List.Mem.tail _ ?_))
  have l16 : RdEl w0 sh (.slice (some ⟨s16, 0, none⟩) 1 1) [awOne] := RdEl.one (e0 awOne rfl rfl) rfl (by rw [hsh]; repeat (first | exact List.Mem.head _ | refine List.Mem.tail _ ?_))
  have l20 : RdEl w0 sh (.slice (some ⟨s20a, 0, none⟩) 1 1) [awK] := RdEl.one (e0 awK rfl rfl) rfl (by rw [hsh]; repeat (first | exact List.Mem.head _ | refine List.Mem.tail _ ?_))
  have l22 : RdEl w0 sh (.slice (some ⟨s20, 0, none⟩) 1 1) awHost.expr.args := RdEl.one (e := .mk 7 0 (bs [100, 111, 117, 98, 108, 101]) (bs []) [awK] []) (RdE.of l20 RdEl.nil0) rfl (by rw [hsh]; repeat (first | exact List.Mem.head _ | refine List.Mem.tail _ ?_))
  have l31 : RdEl w0 sh (.slice (some ⟨s31, 0, none⟩) 2 2) [awK, awZ] := RdEl.two (e0 awK rfl rfl) rfl (e0 awZ rfl rfl) rfl (by rw [hsh]; repeat (first | exact List.Mem.head _ | refine List.Mem.tail _ ?_))
  have l34 : RdSt w0 sh (.slice (some ⟨s34, 0, none⟩) 1 1) [awPush] := RdSt.one (RdS.of (s := awPush) l12 RdEl.nil0 RdSt.nil0 RdSt.nil0) rfl (by rw [hsh]; repeat (first | exact List.Mem.head _ | refine List.Mem.tail _ ?_))
  have l36 : RdSt w0 sh (.slice (some ⟨s36, 0, none⟩) 1 1) [awAdd] := RdSt.one (RdS.of (s := awAdd) l16 RdEl.nil0 RdSt.nil0 RdSt.nil0) rfl (by rw [hsh]; repeat (first | exact List.Mem.head _ | refine List.Mem.tail _ ?_))
  have l39 : RdSt w0 sh (.slice (some ⟨s39, 0, none⟩) 1 1) [awHost] := RdSt.one (RdS.of (s := awHost) l22 RdEl.nil0 RdSt.nil0 RdSt.nil0) rfl (by rw [hsh]; repeat (first | exact List.Mem.head _ | refine List.Mem.tail _ ?_))
  have l41 : RdSt w0 sh (.slice (some ⟨s41, 0, none⟩) 2 2) [awIf, awRep] := RdSt.two (RdS.of (s := awIf) l31 RdEl.nil0 l34 l36) rfl (RdS.of (s := awRep) RdEl.nil0 RdEl.nil0 l39 RdSt.nil0) rfl (by rw [hsh]; repeat (first | exact List.Mem.head _ | refine List.Mem.tail _ ?_))
  have l28 : RdSl w0 sh encY 1 (.slice (some ⟨s28, 0, none⟩) 1 1) awO.params := RdSl.flat (encE := encY) (q := 1) (w0 := w0) (b := s28) (l := awO.params) (fun _ _ => rfl) (by rw [hsh]; repeat (first | exact List.Mem.head _ | refine List.Mem.tail _ ?_))
  have l43 : RdOl w0 sh (.slice (some ⟨s43, 0, none⟩) 1 1) [awO] := RdOl.one (o := awO) ⟨_, _, rfl, l28, l41⟩ rfl (by rw [hsh]; repeat (first | exact List.Mem.head _ | refine List.Mem.tail _ ?_))
  have l27 : RdSl w0 sh encD 2 (.slice (some ⟨s27, 0, none⟩) 2 2) awP.stores := RdSl.flat (encE := encD) (q := 2) (w0 := w0) (b := s27) (l := awP.stores) (fun _ _ => rfl) (by rw [hsh]; repeat (first | exact List.Mem.head _ | refine List.Mem.tail _ ?_))
  have hP : RdP w0 sh (.agg #[.slice (some ⟨s27, 0, none⟩) 2 2, .slice (some ⟨s43, 0, none⟩) 1 1]) awP := ⟨_, _, rfl, l27, l43⟩
  have hof := of_spec w0 hk sh _ awP (bs [102]) hP ⟨by decide, by decide, fun o ho => by rw [List.mem_singleton.1 ho]; decide +kernel⟩ (fun o ho => by rw [List.mem_singleton.1 ho]; decide +kernel)
  rw [awP_of] at hof
  have h6 : (t6, Obj.cells (List.toArray [Value.slice (some ⟨s27, 0, none⟩) 2 2, Value.slice (some ⟨s43, 0, none⟩) 1 1]) 25 (0, 0)) ∈ sh := (by rw [hsh]; repeat (first | exact List.Mem.head _ | refine List.Mem.tail _ ?_))
  have h6m : ∀ hF Γ w, Sh sh hF → St w0 hF Γ w → w.heap[t6]? = some (.cells (List.toArray [Value.slice (some ⟨s27, 0, none⟩) 2 2, Value.slice (some ⟨s43, 0, none⟩) 1 1]) 25 (0, 0)) := fun hF Γ w h1 h2 => (h2.frame (h1 _ h6)).2
  clear l12 l16 l20 l22 l31 l34 l36 l39 l41 l28 l43 l27 e0 hP h6 hsh
  repeat (first | refine zck ?_ | refine zcl ?_ | refine zcm ?_ | refine zcn ?_)
  first | refine zcp (by kernel_rfl) ?_ | refine zcq PP_mixed (by kernel_rfl) (by kernel_rfl) ?_
  repeat' (refine zap rfl ?_; first | refine zad rfl h6m rfl ?_ | refine zan rfl ?_ | refine zan rfl ?_ | (refine zai [] hof rfl rfl rfl (fun _ h => h) ?_; rintro v Γ ⟨q, rfl, rfl⟩) | refine zan rfl ?_ | refine zae 1 rfl rfl rfl rfl rfl rfl rfl ?_ | refine zar (fun nb => ?_))
  all_goals refine zch ?_
  all_goals repeat (first | refine zck ?_ | refine zcl ?_ | refine zcm ?_ | refine zcn ?_)
  refine run_share [1] rfl ?_
  refine run_shareB [0] rfl (fun bl hb => ?_)
  have hs := fun (s1 s2 s3 : Nat) => (same_spec w0 ((s3, Obj.cells (List.toArray (awE.hosts.flatMap encY)) 9 (0, 0)) :: (s2, Obj.cells (List.toArray (awE.writes.flatMap encY)) 9 (0, 0)) :: (s1, Obj.cells (List.toArray (awE.reads.flatMap encY)) 9 (0, 0)) :: bl) (efV q awE) (efV ((some ⟨s1, 0, none⟩, 2), (some ⟨s2, 0, none⟩, 2), (some ⟨s3, 0, none⟩, 1)) awE) awE awE
    (hb.mono fun p hp => by simp [hp]) ⟨_, rfl, _, _, _, rfl, RdSl.flat (encE := encY) (q := 1) (w0 := w0) (b := s1) (l := awE.reads) (fun _ _ => rfl) (.tail _ (.tail _ (.head _))), RdSl.flat (encE := encY) (q := 1) (w0 := w0) (b := s2) (l := awE.writes) (fun _ _ => rfl) (.tail _ (.head _)), RdSl.flat (encE := encY) (q := 1) (w0 := w0) (b := s3) (l := awE.hosts) (fun _ _ => rfl) (.head _)⟩
    ⟨by decide, by decide, by decide⟩ ⟨by decide, by decide, by decide⟩).owned.owned.owned
  rw [sameE_self] at hs
  repeat' (first | refine zcp (by kernel_rfl) ?_ | (refine zap rfl ?_; first | refine reg_buildSlice rfl rfl rfl rfl rfl rfl (fun s55 => ?_) | refine zaj rfl ?_ | refine zan rfl ?_ | refine zan rfl ?_ | refine zaa 0 rfl rfl rfl ?_ | refine zah [] (ofE_spec w0 q awE) rfl rfl rfl sub_nil rfl ?_ | (refine zai [0, 0, 0] (hs _ _ _) rfl rfl rfl (fun p hp => by simp [hp]) ?_; rintro v Γ ⟨_, ⟨_, ⟨_, ⟨rfl, rfl⟩, rfl⟩, rfl⟩, rfl⟩) | refine zbc rfl rfl (by omega) ?_ | refine zbu rfl ?_ | refine zcb rfl ?_) | refine zch ?_)
  refine run_take [] rfl ?_
  exact ret_tmp1 rfl ⟨rfl, rfl⟩
end Go.Proofs.YtjapaghhgpaldaaGreatDoor

namespace Go.Proofs.YtjapaghhgpaldaaGreatDoor
open Go.Vc Sim
theorem join_sp (w0 : World) (sh : Shared) (p q : P6) (a b : Ef) (ha : RdEfV w0 sh (efV p a) a) (hb : RdEfV w0 sh (efV q b) b) (sa : a.sm 30000) (sb : b.sm 30000) :
    Vc.Fn PP w0 sh 16 [efV p a, efV q b] [] (fun v Γ => ∃ r : P6, v = efV r (joinE a b) ∧ Γ = [rdV w0 (efV r (joinE a b)) (joinE a b)]) :=
  (join_form w0 sh _ _ a b ha hb sa sb).mono fun v Γ ⟨x1, y1, x2, y2, x3, y3, h1, h2⟩ => ⟨((x1, y1), (x2, y2), (x3, y3)), h1, by rw [h2, h1]⟩
theorem times_sp (w0 : World) (sh : Shared) (p : P6) (a : Ef) (n : Int) (ha : RdEfV w0 sh (efV p a) a) (sa : a.sm 30000) (hn : n ≤ 9223372036854775807) :
    Vc.Fn PP w0 sh 15 [efV p a, .int .i64 n] [] (fun v Γ => ∃ r : P6, v = efV r (timesE a n) ∧ Γ = [rdV w0 (efV r (timesE a n)) (timesE a n)]) := by
  refine (times_spec w0 sh (efV p a) a n ha sa hn).know ?_
  rintro v Γ rfl hst
  obtain ⟨bl, hbl⟩ := Rds.st hst
  obtain ⟨x1, y1, x2, y2, x3, y3, h⟩ := hbl.form
  refine ⟨((x1, y1), (x2, y2), (x3, y3)), h, ?_⟩
  rw [h]
theorem same_oo (w0 : World) (sh : Shared) (p q : P6) (a b : Ef) (sa : a.sm 1000000) (sb : b.sm 1000000) :
    FnE PP w0 sh 13 [efV p a, efV q b] [rdV w0 (efV p a) a, rdV w0 (efV q b) b] (.bool (sameE a b)) [rdV w0 (efV q b) b, rdV w0 (efV p a) a] := by
  refine (Fn.lendR (φ := fun bl => RdEfV w0 bl (efV p a) a) en13 (fun sh1 bl1 h1 h2 h3 => Fn.lendR (φ := fun bl => RdEfV w0 bl (efV q b) b) en13 (fun sh2 bl2 g1 g2 g3 => same_spec w0 sh2 _ _ a b (h3.mono fun p hp => g1 p (h2 p hp)) (g3.mono g2) sa sb))).mono ?_
  rintro v Γ ⟨_, ⟨_, ⟨rfl, rfl⟩, rfl⟩, rfl⟩
  exact ⟨rfl, rfl⟩
end Go.Proofs.YtjapaghhgpaldaaGreatDoor

namespace Go.Proofs.YtjapaghhgpaldaaGreatDoor
open Go.Vc Sim Go.ChangeShapes Go.WideShapes Go.RowKit
set_option maxRecDepth 100000
theorem cOwn : ownKnob Tryz.prog.godebug = none := by kernel_rfl
theorem cLaid : laidOutB Tryz.prog = true := by kernel_rfl
def nKw : String := Rows.effectsGroupsRow.named.headD ""
def nPw : String := Rows.effectsGroupsRow.named.getD 1 ""
def lKw : List (String × DataW Unit) := [(nKw, Rows.laid_simulcast_lexer_keywords), (nPw, Rows.laid_simulcast_array_powers)]
theorem gKw : Tryz.prog.globalNamed nKw = some 0 := by kernel_rfl
theorem tKw : (Tryz.prog.globals[0]?).map (·.type) = some 151 := by kernel_rfl
def strData (l : List ByteArray) : DataW Unit := .agg (l.map fun s => .lit (.string s.data.toList))
theorem laid_eq : (Rows.laid_simulcast_lexer_keywords : DataW Unit) = strData kwL := rfl
theorem cells_of_strs {H : Type} {enc : TypeId × Value → H} {P : Program} {w : World} {base : Nat} {sp : Nat → Bool} {held : Bool} {fuel : Nat} {t e : TypeId} {n : Nat} {cs : List Value} {l : List ByteArray} {x : DataW H × List MemPlace}
    (ht : P.underlying t = some (.array n e)) (he : P.underlying e = some .string) (hce : P.cellsOf e = 1) (hct : P.cellsOf t = n) (hx : x.1 = .agg (l.map fun s => .lit (.string s.data.toList)))
    (h : DataW.trod enc P w base sp held fuel t cs = some x) : cs = l.flatMap encY := by
  obtain ⟨xs, m, _, rfl, hl, hxl, hf⟩ := DataW.trod_array ht h
  have hxs : xs.map (·.1) = l.map fun s => (DataW.lit (.string s.data.toList) : DataW H) := by simpa using hx
  rw [hct] at hl
  have hll : l.length = n := by
    have := congrArg List.length hxs
    simp at this
    omega
  have hfl : l.flatMap encY = l.map fun s => Value.string s := by
    clear hx hxs hll
    induction l with
    | nil => rfl
    | cons a l ih => rw [List.flatMap_cons, ih]; rfl
  rw [hfl]
  apply List.ext_getElem?
  intro i
  by_cases hi : i < n
  · have h1 := hf i hi
    rw [hce] at h1
    have h2 : xs[i]? = some xs[i] := List.getElem?_eq_getElem (by omega)
    rw [h2] at h1
    obtain ⟨s, hc, hz, _⟩ := DataW.trod_string he h1
    have h3 : cs[i]? = some (.string s) := by
      have := congrArg (·[0]?) hc
      simpa [List.getElem?_take, List.getElem?_drop] using this
    have h4 : (xs.map (·.1))[i]? = some (DataW.lit (.string s.data.toList) : DataW H) := by simp [h2, hz]
    rw [hxs] at h4
    simp only [List.getElem?_map, Option.map_eq_some_iff, DataW.lit.injEq, Lit.string.injEq] at h4
    obtain ⟨s', hs', he'⟩ := h4
    have : s' = s := WideShapes.bytes_inj he'
    subst this
    simp [h3, hs']
  · rw [List.getElem?_eq_none (by omega), List.getElem?_eq_none (by simp; omega)]
theorem kw_ok {W : World} (h : laidMetH Tryz.prog lKw W) : KwOk W := by
  rw [MakeChecks.laidMetH_plain _ _ _ (by kernel_rfl), lKw, laid_eq] at h
  obtain ⟨ps, ⟨g', t', cs, fuel, p, q, hg', ht', hvar, hd, _, _⟩, _⟩ := h
  obtain rfl := Option.some.inj (gKw.symm.trans hg')
  obtain rfl := Option.some.inj (tKw.symm.trans ht')
  have hcs := cells_of_strs (l := kwL) Tryz.underlying151 Tryz.underlying9 (by kernel_rfl) (by kernel_rfl) rfl hd
  unfold World.var? at hvar
  rw [gKw] at hvar
  simp only [Option.bind_some] at hvar
  split at hvar
  · rename_i c T fr hc
    cases hvar
    exact ⟨T, fr, by rw [hc, kwCells, ← hcs]⟩
  · cases hvar
theorem door_met (os : Os) (args : Array Value) : laidMetH Tryz.prog lKw ((World.doorLaid Tryz.prog 400 os).forCall (fun _ _ => 0) ⟨#[], args, []⟩).memory :=
  laidMetH_of_parts3 (fuel := 8) (laidMet_of_run' 8 (by kernel_rfl) (by kernel_rfl)) (by kernel_rfl) (by kernel_rfl)
theorem calls_of {f : FuncId} {args : List Value} {W : World} (h : FnE PP W [] f args [] (.bool true) []) : Calls Tryz.prog f args.toArray W fun e W' => e = .returned (.bool true) ∧ Below W.heap.size W W' := by
  have := h.calls Heap.emp W (fun p hp => by cases hp) (st_start W)
  rw [PP_def] at this
  exact this.mono fun e W' ⟨v, Γ', he, ⟨hv, hΓ⟩, hst⟩ => ⟨by rw [he, hv], below_of_good hst.good⟩
theorem in_ef {H : Type} {enc : TypeId × Value → H} {w : World} {base : Nat} {spare : Nat → Bool} {held : Bool} {n : Nat} {cs : List Value} {y : DataW H × List MemPlace}
    (h : DataW.trod enc Tryz.prog w base spare held n 30 cs = some y) (hw : ∀ q ∈ y.1.weights Tryz.prog 30, q ≤ reachBytes) :
    ∃ (p : P6) (e : Ef), cs = efL p e ∧ RdEfV w [] (efV p e) e ∧ e.sm 1125899906842624 ∧ i64P e.calls := by
  obtain ⟨xs, n', _, hy, hlen, hxl, hf⟩ := DataW.trod_struct Tryz.underlying30 h
  have c1 : Tryz.prog.cellsOf 28 = 1 := by kernel_rfl
  have c2 : Tryz.prog.cellsOf 2 = 1 := by kernel_rfl
  have c4 : Tryz.prog.cellsOf 30 = 4 := by kernel_rfl
  have cs1 : Tryz.prog.cellsOf 9 = 1 := by kernel_rfl
  have bs1 : Tryz.prog.bytesOf 9 = 16 := by kernel_rfl
  rw [c4] at hlen
  have f0 : DataW.trod enc Tryz.prog w base spare held n' 28 ((cs.drop 0).take (Tryz.prog.cellsOf 28)) = xs[0]? := hf 0 _ rfl
  have f1 : DataW.trod enc Tryz.prog w base spare held n' 28 ((cs.drop 1).take (Tryz.prog.cellsOf 28)) = xs[1]? := hf 1 _ rfl
  have f2 : DataW.trod enc Tryz.prog w base spare held n' 28 ((cs.drop 2).take (Tryz.prog.cellsOf 28)) = xs[2]? := hf 2 _ rfl
  have f3 : DataW.trod enc Tryz.prog w base spare held n' 2 ((cs.drop 3).take (Tryz.prog.cellsOf 2)) = xs[3]? := hf 3 _ rfl
  rw [c1] at f0 f1 f2
  rw [c2] at f3
  match cs, hlen with
  | [a0, a1, a2, a3], _ =>
    match xs, hxl with
    | [y0, y1, y2, y3], _ =>
      obtain ⟨v0, l0, e0, r0, _, s0⟩ := in_strsT Tryz.underlying28 Tryz.underlying9 cs1 (show DataW.trod _ _ _ _ _ _ n' _ [a0] = some y0 from f0)
      obtain ⟨v1, l1, e1, r1, _, s1⟩ := in_strsT Tryz.underlying28 Tryz.underlying9 cs1 (show DataW.trod _ _ _ _ _ _ n' _ [a1] = some y1 from f1)
      obtain ⟨v2, l2, e2, r2, _, s2⟩ := in_strsT Tryz.underlying28 Tryz.underlying9 cs1 (show DataW.trod _ _ _ _ _ _ n' _ [a2] = some y2 from f2)
      obtain ⟨k3, e3, _, w3⟩ := DataW.trod_int Tryz.underlying2 (show DataW.trod _ _ _ _ _ _ n' _ [a3] = some y3 from f3)
      simp only [List.cons.injEq, and_true] at e0 e1 e2 e3
      subst e0; subst e1; subst e2; subst e3
      have hwt : y.1.weights Tryz.prog 30 = y0.1.weights Tryz.prog 28 ++ (y1.1.weights Tryz.prog 28 ++ (y2.1.weights Tryz.prog 28 ++ (y3.1.weights Tryz.prog 2 ++ []))) := by
        rw [hy]
        simp only [DataW.weights, Tryz.underlying30]
        rfl
      rw [hwt] at hw
      have t0 := s0 (fun q hq => hw q (List.mem_append_left _ hq))
      have t1 := s1 (fun q hq => hw q (List.mem_append_right _ (List.mem_append_left _ hq)))
      have t2 := s2 (fun q hq => hw q (List.mem_append_right _ (List.mem_append_right _ (List.mem_append_left _ hq))))
      rw [bs1] at t0 t1 t2
      have hR : reachBytes = 140737488351232 := rfl
      obtain ⟨x0, d0, ev0, _⟩ := id r0
      obtain ⟨x1, d1, ev1, _⟩ := id r1
      obtain ⟨x2, d2, ev2, _⟩ := id r2
      subst ev0; subst ev1; subst ev2
      exact ⟨((x0, d0), (x1, d1), (x2, d2)), ⟨l0, l1, l2, k3⟩, rfl, ⟨_, rfl, _, _, _, rfl, r0.rd, r1.rd, r2.rd⟩, ⟨by dsimp only; omega, by dsimp only; omega, by dsimp only; omega⟩, wf_i64 w3⟩
end Go.Proofs.YtjapaghhgpaldaaGreatDoor

namespace Sim
open Go Go.Vc
theorem insN_mem {s : ByteArray} : ∀ {l : List ByteArray}, StrS l → s ∈ l → insN l s = l
  | [], _, h => by simp at h
  | x :: l, hs, h => by
    obtain ⟨h1, h2⟩ := List.pairwise_cons.1 hs
    unfold insN
    by_cases e : x = s
    · rw [if_pos e]
    · have hm : s ∈ l := (List.mem_cons.1 h).resolve_left fun e' => e e'.symm
      rw [if_neg e, if_neg (fun hlt => ltS_irrefl _ (ltS_trans hlt (h1 s hm))), insN_mem h2 hm]
theorem insN_at {s : ByteArray} : ∀ {l : List ByteArray} {k : Nat}, s ∉ l → k ≤ l.length → (∀ j y, j < k → l[j]? = some y → ltS y s) → (∀ y, l[k]? = some y → ¬ ltS y s) → insN l s = l.take k ++ s :: l.drop k
  | [], k, _, hk, _, _ => by
    have : k = 0 := by simpa using hk
    subst this; rfl
  | x :: l, 0, hm, _, _, h2 => by
    have h3 := h2 x rfl
    have hne : ¬ x = s := fun e => hm (by simp [e])
    unfold insN
    rw [if_neg hne, if_pos (Classical.byContradiction fun hn => hne (ltS_tri h3 hn))]
    rfl
  | x :: l, k + 1, hm, hk, h1, h2 => by
    have h3 := h1 0 x (by omega) rfl
    have hne : ¬ x = s := ltS_ne h3
    unfold insN
    rw [if_neg hne, if_neg (fun h => ltS_irrefl _ (ltS_trans h h3))]
    rw [insN_at (fun h => hm (List.mem_cons_of_mem _ h)) (by simpa using hk) (fun j y hj hy => h1 (j + 1) y (by omega) (by simpa using hy)) (fun y hy => h2 y (by simpa using hy))]
    rfl
theorem normN_snoc (l : List ByteArray) (s : ByteArray) : normN (l ++ [s]) = insN (normN l) s := by unfold normN; rw [List.foldl_append]; rfl
end Sim

namespace Go.Proofs.YtjapaghhgpaldaaGreatDoor
open Go.Vc Sim
theorem in_spec (w0 : World) (sh : Shared) (v : Value) (l : List ByteArray) (s : ByteArray) (hl : RdSl w0 sh encY 1 v l) (hb : l.length ≤ 1099511627776) :
    FnE PP w0 sh 29 [v, .string s] [] (.bool (inS l s)) [] := by
  obtain ⟨a, c, rfl⟩ := hl.val
  refine fn_of_run en29 fn29 rfl rfl rfl ?_
  repeat' (first | refine zck ?_ | refine zcp (by kernel_rfl) ?_ | refine zcl ?_ | (refine zap rfl ?_; first | refine zan rfl ?_) | refine zch ?_)
  refine run_loop (S := Nat) (fun j => [(0, .slice a l.length c), (1, .string s), (5, .int .i64 j)]) (fun j Γ => Γ = [] ∧ j ≤ l.length ∧ inS l s = inS (l.drop j) s) (fun j => l.length - j) 0 ⟨rfl, rfl, rfl, trivial⟩ ⟨rfl, by omega, rfl⟩ ?_
  rintro j Γ junk ⟨rfl, g1, g2⟩
  by_cases hj : j < l.length
  · obtain ⟨x, hx⟩ : ∃ x, l[j]? = some x := ⟨_, List.getElem?_eq_getElem hj⟩
    obtain ⟨b1, o1, k1, T1, f1, rfl, e2, _, e3⟩ := hl.cells hx
    have r1 : ∀ o, o = o1 + j * 1 + 0 → rd false 1 k1.toList o = some (.string x) := fun o ho => e3 0 _ rfl o ho
    have hd : l.drop j = x :: l.drop (j + 1) := by
      rw [List.drop_eq_getElem_cons hj]
      congr 1
      exact (List.getElem?_eq_some_iff.1 hx).2
    have hin : inS (l.drop j) s = (decide (x = s) || inS (l.drop (j + 1)) s) := by rw [hd]; rfl
    rw [hin] at g2
    by_cases hxy : x = s
    · rw [decide_eq_true hxy, Bool.true_or] at g2
      rw [g2]
      repeat' (first | refine zck ?_ | refine zcp (by kernel_rfl) ?_ | refine zcm ?_ | refine zcl ?_ | (refine zap rfl ?_; first | refine zad rfl e2 (r1 _ (by omega)) ?_ | refine reg_eqST rfl rfl hxy ?_ | refine zan rfl ?_ | refine zan rfl ?_ | refine zce rfl ?_ | refine zbg rfl rfl (by omega) ?_ | refine zas rfl rfl (by omega) ?_) | refine zch ?_ | refine zci rfl ?_)
      exact qret1 (fun _ _ h => h) rfl ⟨rfl, rfl⟩
    · rw [decide_eq_false hxy, Bool.false_or] at g2
      repeat' (first | refine zck ?_ | refine zcp (by kernel_rfl) ?_ | refine zcm ?_ | refine zcl ?_ | refine zcn ?_ | (refine zap rfl ?_; first | refine zad rfl e2 (r1 _ (by omega)) ?_ | refine reg_eqSF rfl rfl hxy ?_ | refine zan rfl ?_ | refine zan rfl ?_ | refine zce rfl ?_ | refine zbg rfl rfl (by omega) ?_ | refine zau rfl rfl (by omega) ?_ | refine zas rfl rfl (by omega) ?_) | refine zch ?_ | refine zci rfl ?_ | refine zcj rfl ?_)
      exact cut_end ⟨rfl, j + 1, ⟨rfl, rfl, int_eq (by omega), trivial⟩, ⟨rfl, by omega, g2⟩, by omega⟩
  · rw [List.drop_of_length_le (by omega)] at g2
    rw [g2]
    repeat' (first | refine zck ?_ | refine zcp (by kernel_rfl) ?_ | (refine zap rfl ?_; first | refine zan rfl ?_ | refine zce rfl ?_ | refine zbh rfl rfl (by omega) ?_) | refine zch ?_ | refine zcj rfl ?_)
    refine cut_exit rfl rfl ?_
    repeat' (first | refine zck ?_ | refine zcp (by kernel_rfl) ?_ | (refine zap rfl ?_; first | refine zan rfl ?_) | refine zch ?_)
    exact ret_tmp1 rfl ⟨rfl, rfl⟩
def meetS (a b : List ByteArray) : Bool := a.any fun s => inS b s
theorem meet_spec (w0 : World) (sh : Shared) (va vb : Value) (a b : List ByteArray) (ha : RdSl w0 sh encY 1 va a) (hb : RdSl w0 sh encY 1 vb b) (hn : a.length ≤ 1099511627776) (hn2 : b.length ≤ 1099511627776) :
    FnE PP w0 sh 11 [va, vb] [] (.bool (meetS a b)) [] := by
  obtain ⟨x1, y1, rfl⟩ := ha.val
  have hin := fun s => in_spec w0 sh vb b s hb hn2
  refine fn_of_run en11 fn11 rfl rfl rfl ?_
  repeat' (first | refine zck ?_ | refine zcp (by kernel_rfl) ?_ | refine zcl ?_ | (refine zap rfl ?_; first | refine zan rfl ?_) | refine zch ?_)
  refine run_loop (S := Nat) (fun j => [(0, .slice x1 a.length y1), (1, vb), (5, .int .i64 j)]) (fun j Γ => Γ = [] ∧ j ≤ a.length ∧ meetS a b = meetS (a.drop j) b) (fun j => a.length - j) 0 ⟨rfl, rfl, rfl, trivial⟩ ⟨rfl, by omega, rfl⟩ ?_
  rintro j Γ junk ⟨rfl, g1, g2⟩
  by_cases hj : j < a.length
  · obtain ⟨x, hx⟩ : ∃ x, a[j]? = some x := ⟨_, List.getElem?_eq_getElem hj⟩
    obtain ⟨b1, o1, k1, T1, f1, rfl, e2, _, e3⟩ := ha.cells hx
    have r1 : ∀ o, o = o1 + j * 1 + 0 → rd false 1 k1.toList o = some (.string x) := fun o ho => e3 0 _ rfl o ho
    have hd : a.drop j = x :: a.drop (j + 1) := by
      rw [List.drop_eq_getElem_cons hj]
      congr 1
      exact (List.getElem?_eq_some_iff.1 hx).2
    have hm : meetS (a.drop j) b = (inS b x || meetS (a.drop (j + 1)) b) := by rw [hd]; rfl
    have hc := hin x
    rw [hm] at g2
    cases hB : inS b x with
    | true =>
      rw [hB] at hc g2
      rw [Bool.true_or] at g2
      rw [g2]
      repeat' (first | refine zck ?_ | refine zcp (by kernel_rfl) ?_ | refine zcm ?_ | refine zcl ?_ | (refine zap rfl ?_; first | refine zad rfl e2 (r1 _ (by omega)) ?_ | refine zan rfl ?_ | refine zan rfl ?_ | refine zce rfl ?_ | refine zah [] hc rfl rfl rfl (fun _ h => h) rfl ?_ | refine zbg rfl rfl (by omega) ?_ | refine zas rfl rfl (by omega) ?_) | refine zch ?_ | refine zci rfl ?_)
      exact qret1 (fun _ _ h => h) rfl ⟨rfl, rfl⟩
    | false =>
      rw [hB] at hc g2
      rw [Bool.false_or] at g2
      repeat' (first | refine zck ?_ | refine zcp (by kernel_rfl) ?_ | refine zcm ?_ | refine zcl ?_ | refine zcn ?_ | (refine zap rfl ?_; first | refine zad rfl e2 (r1 _ (by omega)) ?_ | refine zan rfl ?_ | refine zan rfl ?_ | refine zce rfl ?_ | refine zah [] hc rfl rfl rfl (fun _ h => h) rfl ?_ | refine zbg rfl rfl (by omega) ?_ | refine zau rfl rfl (by omega) ?_ | refine zas rfl rfl (by omega) ?_) | refine zch ?_ | refine zci rfl ?_ | refine zcj rfl ?_)
      exact cut_end ⟨rfl, j + 1, ⟨rfl, rfl, int_eq (by omega), trivial⟩, ⟨rfl, by omega, g2⟩, by omega⟩
  · rw [List.drop_of_length_le (by omega)] at g2
    rw [g2]
    repeat' (first | refine zck ?_ | refine zcp (by kernel_rfl) ?_ | (refine zap rfl ?_; first | refine zan rfl ?_ | refine zce rfl ?_ | refine zbh rfl rfl (by omega) ?_) | refine zch ?_ | refine zcj rfl ?_)
    refine cut_exit rfl rfl ?_
    repeat' (first | refine zck ?_ | refine zcp (by kernel_rfl) ?_ | (refine zap rfl ?_; first | refine zan rfl ?_) | refine zch ?_)
    exact ret_tmp1 rfl ⟨rfl, rfl⟩
abbrev strR (w0 : World) (a : Option Addr) (c : Nat) (l : List ByteArray) : Asn := Rds fun bl => RdSl w0 bl encY 1 (.slice a l.length c) l
set_option maxHeartbeats 2000000 in
theorem names47_spec (w0 : World) (sh : Shared) (v : Value) (l : List ByteArray) (hl : RdSl w0 sh encY 1 v l) (hb : l.length ≤ 100000) :
    Vc.Fn PP w0 sh 35 [v] [] (fun r Γ => ∃ a c, r = .slice a (normN l).length c ∧ Γ = [strR w0 a c (normN l)]) := by
  obtain ⟨x1, y1, rfl⟩ := hl.val
  refine fn_of_run en35 fn35 rfl rfl rfl ?_
  repeat (first | refine zck ?_ | refine zcl ?_ | refine zcm ?_ | refine zcn ?_)
  first | refine zcp (by kernel_rfl) ?_ | refine zcq PP_mixed (by kernel_rfl) (by kernel_rfl) ?_
  repeat' (refine zap rfl ?_; first | refine zan rfl ?_)
  all_goals refine zch ?_
  all_goals repeat (first | refine zck ?_ | refine zcl ?_ | refine zcm ?_ | refine zcn ?_)
  repeat (first | refine zck ?_ | refine zcl ?_ | refine zcm ?_ | refine zcn ?_)
  first | refine zcp (by kernel_rfl) ?_ | refine zcq PP_mixed (by kernel_rfl) (by kernel_rfl) ?_
  repeat' (refine zap rfl ?_; first | refine zan rfl ?_)
  all_goals refine zch ?_
  all_goals repeat (first | refine zck ?_ | refine zcl ?_ | refine zcm ?_ | refine zcn ?_)
  refine run_emptyR (fun bl => RdSl w0 bl encY 1 (.slice none 0 0) []) RdSl.nil ?_
  repeat (first | refine zck ?_ | refine zcl ?_ | refine zcm ?_ | refine zcn ?_)
  first | refine zcp (by kernel_rfl) ?_ | refine zcq PP_mixed (by kernel_rfl) (by kernel_rfl) ?_
  repeat' (refine zap rfl ?_; first | refine zan rfl ?_)
  all_goals refine zch ?_
  all_goals repeat (first | refine zck ?_ | refine zcl ?_ | refine zcm ?_ | refine zcn ?_)
  refine run_loop (S := Nat × Option Addr × Nat) (fun s => [(0, .slice x1 l.length y1), (3, .slice s.2.1 (normN (l.take s.1)).length s.2.2), (4, .int .i64 s.1)])
    (fun s Γ => Γ = [strR w0 s.2.1 s.2.2 (normN (l.take s.1))] ∧ s.1 ≤ l.length) (fun s => l.length - s.1) (0, none, 0) ⟨rfl, rfl, rfl, trivial⟩ ⟨rfl, Nat.zero_le _⟩ ?_
  rintro ⟨i, a, c⟩ Γ junk ⟨rfl, g1⟩
  dsimp only at g1 ⊢
  by_cases hi : i < l.length
  · obtain ⟨x, hx⟩ : ∃ x, l[i]? = some x := ⟨_, List.getElem?_eq_getElem hi⟩
    obtain ⟨b1, o1, k1, T1, f1, rfl, e2, _, e3⟩ := hl.cells hx
    have r1 : ∀ o, o = o1 + i * 1 + 0 → rd false 1 k1.toList o = some (.string x) := fun o ho => e3 0 _ rfl o ho
    have hnx : normN (l.take (i + 1)) = insN (normN (l.take i)) x := by rw [take_snoc hx, normN_snoc]
    have hstr := normN_str (l.take i)
    have hln : (normN (l.take i)).length ≤ 100000 := by have := normN_len (l.take i); rw [List.length_take] at this; omega
    generalize normN (l.take i) = out at *
    have hin := fun sh1 h => in_spec w0 sh1 (.slice a out.length c) out x h (by omega)
    have hin2 := Fn.lendR (sh := []) (Γ := []) (φ := fun bl => RdSl w0 bl encY 1 (.slice a out.length c) out) en29 (fun sh1 bl h1 h2 h3 => hin sh1 (h3.mono h2))
    by_cases hB : inS out x = true
    · have hm : x ∈ out := by simpa [inS] using hB
      rw [insN_mem hstr hm] at hnx
      rw [hB] at hin2
      repeat' (first | refine zck ?_ | refine zcp (by kernel_rfl) ?_ | refine zcm ?_ | refine zcl ?_ | refine zcs rfl ?_ | (refine zap rfl ?_; first | refine zad rfl e2 (r1 _ (by omega)) ?_ | refine zan rfl ?_ | refine zan rfl ?_ | refine zce rfl ?_ | (refine zai [0] hin2 rfl rfl rfl sub_nil ?_; rintro v Γ ⟨_, ⟨rfl, rfl⟩, rfl⟩) | refine zbg rfl rfl (by omega) ?_ | refine zau rfl rfl (by omega) ?_ | refine zas rfl rfl (by omega) ?_) | refine zch ?_ | refine zci rfl ?_)
      exact cut_end ⟨rfl, (i + 1, a, c), ⟨rfl, by dsimp only; rw [hnx]; rfl, int_eq (by dsimp only; omega), trivial⟩, ⟨by dsimp only; rw [hnx]; rfl, by dsimp only; omega⟩, by dsimp only; omega⟩
    · have hB := Bool.eq_false_iff.2 hB
      have hm : ¬ x ∈ out := fun hx => by simp [inS] at hB; exact hB x hx rfl
      rw [hB] at hin2
      repeat (first | refine zck ?_ | refine zcl ?_ | refine zcm ?_ | refine zcn ?_)
      first | refine zcp (by kernel_rfl) ?_ | refine zcq PP_mixed (by kernel_rfl) (by kernel_rfl) ?_
      repeat' (refine zap rfl ?_; first | refine zan rfl ?_ | refine zce rfl ?_ | refine zbg rfl rfl (by omega) ?_)
      all_goals refine zch ?_
      all_goals repeat (first | refine zck ?_ | refine zcl ?_ | refine zcm ?_ | refine zcn ?_)
      refine zci rfl ?_
      repeat (first | refine zck ?_ | refine zcl ?_ | refine zcm ?_ | refine zcn ?_)
      first | refine zcp (by kernel_rfl) ?_ | refine zcq PP_mixed (by kernel_rfl) (by kernel_rfl) ?_
      repeat' (refine zap rfl ?_; first | refine zad rfl e2 (r1 _ (by omega)) ?_ | refine zan rfl ?_ | (refine zai [0] hin2 rfl rfl rfl sub_nil ?_; rintro v Γ ⟨_, ⟨rfl, rfl⟩, rfl⟩) | refine zas rfl rfl (by omega) ?_)
      all_goals refine zch ?_
      all_goals repeat (first | refine zck ?_ | refine zcl ?_ | refine zcm ?_ | refine zcn ?_)
      refine zcj rfl ?_
      refine run_shareB [0] rfl (fun bl hO => ?_)
      repeat (first | refine zck ?_ | refine zcl ?_ | refine zcm ?_ | refine zcn ?_)
      first | refine zcp (by kernel_rfl) ?_ | refine zcq PP_mixed (by kernel_rfl) (by kernel_rfl) ?_
      repeat' (refine zap rfl ?_; first | refine zan rfl ?_)
      all_goals refine zch ?_
      all_goals repeat (refine zck ?_)
      refine run_bind_eq2 (σ := { k : Nat // k ≤ out.length ∧ insN out x = out.take k ++ x :: out.drop k }) (l' := fun s => [(0, .slice (some ⟨b1, o1, none⟩) l.length y1), (3, .slice a out.length c), (4, .int .i64 i), (5, .int .i64 s.1)]) (Γ' := fun _ => []) ?_ ?_
      · refine zcl ?_
        refine run_loop (S := Nat) (fun k => [(0, .slice (some ⟨b1, o1, none⟩) l.length y1), (3, .slice a out.length c), (4, .int .i64 i), (5, .int .i64 k)])
          (fun k Γ => Γ = [] ∧ k ≤ out.length ∧ ∀ j y, j < k → out[j]? = some y → ltS y x) (fun k => out.length - k) 0 ⟨rfl, rfl, rfl, rfl, trivial⟩ ⟨rfl, by omega, fun j y h _ => by omega⟩ ?_
        rintro k Γ junk ⟨rfl, q1, q2⟩
        by_cases hk : k < out.length
        · obtain ⟨y, hy⟩ : ∃ y, out[k]? = some y := ⟨_, List.getElem?_eq_getElem hk⟩
          obtain ⟨b3, o3, k3, T3, f3, rfl, g3, _, g4⟩ := hO.cells hy
          have r3 : ∀ o, o = o3 + k * 1 + 0 → rd false 1 k3.toList o = some (.string y) := fun o ho => g4 0 _ rfl o ho
          by_cases hlt : ltS y x
          · have hBl : Op.bytesLess y.toList x.toList = true := by rw [bytesLess_lt]; exact decide_eq_true hlt
            repeat' (first | refine zck ?_ | refine zcp (by kernel_rfl) ?_ | refine zcq PP_mixed (by kernel_rfl) (by kernel_rfl) ?_ | refine zcm ?_ | refine zcl ?_ | refine zcn ?_ | (refine zap rfl ?_; first | refine zad rfl (fun hF Γ w h1 h2 => e2 hF Γ w (fun p hp => h1 p (by simp [hp])) h2) (r1 _ (by omega)) ?_ | refine zad rfl (fun hF Γ w h1 h2 => g3 hF Γ w (fun p hp => h1 p (by simp [hp])) h2) (r3 _ (by omega)) ?_ | refine reg_ltSB true rfl rfl hBl ?_ | refine zaj rfl ?_ | refine zan rfl ?_ | refine zan rfl ?_ | refine zce rfl ?_ | refine zbg rfl rfl (by omega) ?_ | refine zau rfl rfl (by omega) ?_ | refine zbu rfl ?_ | refine zas rfl rfl (by omega) ?_) | refine zch ?_ | refine zci rfl ?_)
            exact cut_end ⟨rfl, k + 1, ⟨rfl, rfl, rfl, int_eq (by omega), trivial⟩, ⟨rfl, by omega, fun j z hj hz => by
              by_cases hjk : j = k
              · subst hjk; rw [hy] at hz; cases hz; exact hlt
              · exact q2 j z (by omega) hz⟩, by omega⟩
          · have hBl : Op.bytesLess y.toList x.toList = false := by rw [bytesLess_lt]; exact decide_eq_false hlt
            repeat' (first | refine zck ?_ | refine zcq PP_mixed (by kernel_rfl) (by kernel_rfl) ?_ | (refine zap rfl ?_; first | refine zad rfl (fun hF Γ w h1 h2 => e2 hF Γ w (fun p hp => h1 p (by simp [hp])) h2) (r1 _ (by omega)) ?_ | refine zad rfl (fun hF Γ w h1 h2 => g3 hF Γ w (fun p hp => h1 p (by simp [hp])) h2) (r3 _ (by omega)) ?_ | refine reg_ltSB false rfl rfl hBl ?_ | refine zaj rfl ?_ | refine zan rfl ?_ | refine zce rfl ?_ | refine zbg rfl rfl (by omega) ?_ | refine zbu rfl ?_ | refine zas rfl rfl (by omega) ?_) | refine zch ?_ | refine zcj rfl ?_)
            refine cut_exit rfl rfl ?_
            exact cut_end ⟨rfl, ⟨k, by omega, insN_at hm (by omega) q2 (fun z hz => by rw [hy] at hz; cases hz; exact hlt)⟩, ⟨rfl, rfl, rfl, rfl, trivial⟩, rfl⟩
        · repeat' (first | refine zck ?_ | refine zcq PP_mixed (by kernel_rfl) (by kernel_rfl) ?_ | (refine zap rfl ?_; first | refine zak rfl ?_ | refine zan rfl ?_ | refine zce rfl ?_ | refine zbh rfl rfl (by omega) ?_ | refine zbv rfl ?_) | refine zch ?_ | refine zcj rfl ?_)
          refine cut_exit rfl rfl ?_
          exact cut_end ⟨rfl, ⟨k, q1, insN_at hm q1 q2 (fun z hz => by rw [List.getElem?_eq_none (by omega)] at hz; cases hz)⟩, ⟨rfl, rfl, rfl, rfl, trivial⟩, rfl⟩
      · rintro ⟨k, hk1, hk2⟩ junk
        dsimp only
        rw [hk2] at hnx
        have h1 := hO.pre hk1
        have h2 := hO.tail hk1
        have hcap := hO.cap
        have hone : ∀ m : List ByteArray, allOne (m.flatMap encY) = true := fun m => by rw [← unB_map m, ← strsV_y]; exact strsV_one _
        have hl1 : (out.take k).length = k := by rw [List.length_take]; omega
        have hl2 : (out.drop k).length = out.length - k := List.length_drop
        repeat' (first | refine zck ?_ | refine zcp (by kernel_rfl) ?_ | refine zcn ?_ | (refine zap rfl ?_; first | refine zad rfl (fun hF Γ w h1 h2 => e2 hF Γ w (fun p hp => h1 p (by simp [hp])) h2) (r1 _ (by omega)) ?_ | refine reg_buildSlice rfl rfl rfl rfl rfl rfl (fun nb => ?_) | refine reg_slice2 (sz := 1) rfl rfl (by omega) ?_ | refine reg_sliceT rfl rfl ⟨by omega, by omega⟩ ?_ | refine zan rfl ?_ | refine zan rfl ?_ | refine reg_append 0 1 rfl rfl rfl rfl rfl rfl rfl rfl (by omega) (fun _ _ => rfl) (fun a4 c4 => ?_) | refine reg_append_rdE 0 rfl rfl (h2.mono fun p hp => List.mem_append_right _ hp) (by decide) (hone _) rfl rfl (by omega) (fun _ _ => rfl) (fun a5 c5 => ?_) | (refine reg_own 0 rfl rfl (len := 0) (cap := 0) (sz := 1) ⟨rfl, Nat.le_refl _, Nat.le_refl _⟩ rfl ?_; refine reg_append_rdE 0 rfl rfl (h1.mono fun p hp => List.mem_append_right _ hp) (by decide) (hone _) rfl rfl (by omega) (fun _ _ => rfl) (fun a3 c3 => ?_)) | refine zau rfl rfl (by omega) ?_ | refine zas rfl rfl (by omega) ?_) | refine zch ?_)
        have hL : 0 + (out.take k).length + 1 + (out.drop k).length = (normN (l.take (i + 1))).length := by rw [hnx, List.length_append, List.length_cons]; omega
        refine run_take [0] rfl ?_
        refine run_slR encY 0 (l := normN (l.take (i + 1))) rfl (by rw [hnx]; show ([] ++ (out.take k).flatMap encY) ++ [Value.string x] ++ (out.drop k).flatMap encY = _; simp) (fun _ _ => rfl) hL.symm rfl ?_
        exact cut_end ⟨rfl, (i + 1, a5, c5), ⟨rfl, congrArg (fun n => Value.slice a5 n c5) hL, int_eq (by dsimp only; omega), trivial⟩, ⟨by dsimp only [strR]; rw [← hL], by dsimp only; omega⟩, by dsimp only; omega⟩
  · have hil : i = l.length := by omega
    subst hil
    rw [List.take_length]
    repeat' (first | refine zck ?_ | refine zcp (by kernel_rfl) ?_ | (refine zap rfl ?_; first | refine zan rfl ?_ | refine zce rfl ?_ | refine zbh rfl rfl (by omega) ?_) | refine zch ?_ | refine zcj rfl ?_)
    refine cut_exit rfl rfl ?_
    repeat' (first | refine zck ?_ | refine zcp (by kernel_rfl) ?_ | (refine zap rfl ?_; first | refine zan rfl ?_ | refine zan rfl ?_) | refine zch ?_)
    exact ret_tmp1 rfl ⟨a, c, rfl, rfl⟩
end Go.Proofs.YtjapaghhgpaldaaGreatDoor

namespace Sim
def rightE (a : Ef) : Ef := ⟨normN a.reads, normN a.writes, normN a.hosts, bndC a.calls⟩
theorem rightE_sm {a : Ef} {n : Nat} (h : a.sm n) : (rightE a).sm n := ⟨Nat.le_trans (normN_len _) h.1, Nat.le_trans (normN_len _) h.2.1, Nat.le_trans (normN_len _) h.2.2⟩
theorem rightE_join (a : Ef) : rightE a = joinE a zeroE := by
  unfold rightE joinE zeroE
  simp only [normN_nil, sumC_zero]
end Sim
namespace Go.Proofs.YtjapaghhgpaldaaGreatDoor
open Go.Vc Sim
theorem bound_spec (w0 : World) (x : Int) : FnE PP w0 [] 36 [.int .i64 x] [] (.int .i64 (bndC x)) [] := by
  refine fn_of_run en36 fn36 rfl rfl rfl ?_
  repeat' (first | refine zck ?_ | refine zcp (by kernel_rfl) ?_ | (refine zap rfl ?_; first | refine zan rfl ?_ | refine zan rfl ?_ | refine zcg rfl rfl ?_ | refine zcf rfl rfl ?_) | refine zch ?_)
  refine ret_tmp1 rfl ⟨int_eq ?_, rfl⟩
  unfold bndC mostC
  split <;> split <;> (try split) <;> omega
set_option maxHeartbeats 1000000 in
theorem right_spec (w0 : World) (sh : Shared) (va : Value) (a : Ef) (ha : RdEfV w0 sh va a) (sa : a.sm 100000) :
    Vc.Fn PP w0 sh 34 [va] [] (fun v Γ => ∃ r : P6, v = efV r (rightE a) ∧ Γ = [rdV w0 (efV r (rightE a)) (rightE a)]) := by
  obtain ⟨_, rfl, v1, v2, v3, rfl, h1, h2, h3⟩ := ha
  obtain ⟨s1, s2, s3⟩ := sa
  have k1 := names47_spec w0 sh v1 a.reads h1 s1
  have k2 := names47_spec w0 sh v2 a.writes h2 s2
  have k3 := names47_spec w0 sh v3 a.hosts h3 s3
  obtain ⟨a1, c1, rfl⟩ := h1.val
  obtain ⟨a2, c2, rfl⟩ := h2.val
  obtain ⟨a3, c3, rfl⟩ := h3.val
  refine fn_of_run en34 fn34 rfl rfl rfl ?_
  repeat (first | refine zck ?_ | refine zcl ?_ | refine zcm ?_ | refine zcn ?_)
  first | refine zcp (by kernel_rfl) ?_ | refine zcq PP_mixed (by kernel_rfl) (by kernel_rfl) ?_
  repeat' (refine zap rfl ?_; first | refine zaq (cs := [_, _, _, _]) rfl (fun nb => ?_) | refine zar (fun nb => ?_))
  all_goals refine zch ?_
  all_goals repeat (first | refine zck ?_ | refine zcl ?_ | refine zcm ?_ | refine zcn ?_)
  refine run_share [0] rfl ?_
  repeat' (first | refine zcq PP_mixed (by kernel_rfl) (by kernel_rfl) ?_ | (refine zap rfl ?_; first | refine zaa 0 rfl rfl rfl ?_ | refine zah [] (bound_spec w0 _) rfl rfl rfl sub_nil rfl ?_ | (refine zai [] k1 rfl rfl rfl (fun p hp => by simp [hp]) ?_; rintro v Γ ⟨x1, y1, rfl, rfl⟩) | (refine zai [] k2 rfl rfl rfl (fun p hp => by simp [hp]) ?_; rintro v Γ ⟨x2, y2, rfl, rfl⟩) | (refine zai [] k3 rfl rfl rfl (fun p hp => by simp [hp]) ?_; rintro v Γ ⟨x3, y3, rfl, rfl⟩) | refine zao rfl ?_ | refine zae 3 rfl rfl rfl rfl rfl rfl rfl ?_ | refine zcb rfl ?_) | refine zch ?_)
  refine run_joinR [2, 1] (χ := fun bl => RdSl w0 bl encY 1 (.slice x1 (normN a.reads).length y1) (normN a.reads) ∧ RdSl w0 bl encY 1 (.slice x2 (normN a.writes).length y2) (normN a.writes)) rfl
    (fun b1 b2 h1 h2 => ⟨h1.mono fun p hp => List.mem_append_left _ hp, h2.mono fun p hp => List.mem_append_right _ hp⟩) ?_
  refine run_joinR [0, 0] (χ := fun bl => RdEfV w0 bl (efV ((x1, y1), (x2, y2), (x3, y3)) (rightE a)) (rightE a)) rfl
    (fun b1 b2 h1 h2 => ⟨_, rfl, _, _, _, rfl, h1.1.mono fun p hp => List.mem_append_left _ hp, h1.2.mono fun p hp => List.mem_append_left _ hp, h2.mono fun p hp => List.mem_append_right _ hp⟩) ?_
  exact run_ret (leaves_nil (ends_take [0] rfl (ends_one rfl (resOk_pt 1 rfl rfl rfl) ⟨rfl, ((x1, y1), (x2, y2), (x3, y3)), rfl, rfl⟩)))
set_option maxHeartbeats 2000000 in
theorem rtimes_spec (w0 : World) (sh : Shared) (p : P6) (a : Ef) (n : Int) (ha : RdEfV w0 sh (efV p a) a) (sa : a.sm 30000) (hn : n ≤ 9223372036854775807) :
    Vc.Fn PP w0 sh 20 [efV p a, .int .i64 n] [] (fun v Γ => ∃ r : P6, v = efV r (timesE a n) ∧ Γ = [rdV w0 (efV r (timesE a n)) (timesE a n)]) := by
  have hj := right_spec w0 sh _ a ha (sa.mono (by omega))
  rw [rightE_join] at hj
  have hc : 0 ≤ (joinE a zeroE).calls ∧ (joinE a zeroE).calls ≤ 4611686018427387904 := sumC_range a.calls 0
  have ht : timesE a n = if n < 1 then zeroE else { joinE a zeroE with calls := if mostC / n < (joinE a zeroE).calls then mostC else (joinE a zeroE).calls * n } := rfl
  generalize hJ : joinE a zeroE = J at *
  refine fn_of_run en20 fn20 rfl rfl rfl ?_
  by_cases h1 : n < 1
  · rw [if_pos h1] at ht
    repeat' (first | refine zck ?_ | refine zcp (by kernel_rfl) ?_ | (refine zap rfl ?_; first | refine zan rfl ?_ | refine zbg rfl rfl (by omega) ?_ | refine zae 1 rfl rfl rfl rfl rfl rfl rfl ?_ | refine zaq (cs := [_, _, _, _]) rfl (fun nb => ?_) | refine zar (fun nb => ?_) | refine zcb rfl ?_) | refine zch ?_ | refine zci rfl ?_)
    refine run_emptyR (fun bl => RdEfV w0 bl (efV p0 zeroE) zeroE) RdEfV.zero ?_
    rw [ht]
    exact run_ret (leaves_nil (ends_take [0] rfl (ends_one rfl (resOk_pt 2 rfl rfl rfl) ⟨rfl, p0, rfl, rfl⟩)))
  · rw [if_neg h1] at ht
    obtain ⟨X, hX⟩ : ∃ X, (4611686018427387904 : Int) / n = X := ⟨_, rfl⟩
    have ht : timesE a n = { J with calls := if X < J.calls then 4611686018427387904 else J.calls * n } := by rw [ht, ← hX]
    have hd : X < J.calls ∨ (J.calls ≤ X ∧ J.calls * n ≤ 4611686018427387904 ∧ 0 ≤ J.calls * n) := by
      by_cases h : X < J.calls
      · exact .inl h
      · refine .inr ⟨by omega, ?_, Int.mul_nonneg hc.1 (by omega)⟩
        have h2 : J.calls * n ≤ X * n := Int.mul_le_mul_of_nonneg_right (by omega) (by omega)
        have h3 := Int.ediv_mul_le 4611686018427387904 (show n ≠ 0 by omega)
        rw [hX] at h3
        omega
    rcases hd with hd | ⟨hd, hm1, hm2⟩
    · rw [if_pos hd] at ht
      repeat' (first | refine zck ?_ | refine zcp (by kernel_rfl) ?_ | refine run_drawR PP_mixed (by kernel_rfl) (by kernel_rfl) ?_ | refine zcm ?_ | (refine zap rfl ?_; first | (refine zax rfl rfl (by omega) ?_; rw [hX]) | refine zan rfl ?_ | refine zab 0 rfl rfl rfl ?_ | refine zab 3 rfl rfl rfl ?_ | (refine zai [] hj rfl rfl rfl (fun _ h => h) ?_; rintro v Γ ⟨r, rfl, rfl⟩) | refine zao rfl ?_ | refine zbh rfl rfl (by omega) ?_ | refine zbk rfl rfl (by omega) ?_ | refine zae 2 rfl rfl rfl rfl rfl rfl rfl ?_ | refine zae 3 rfl rfl rfl rfl rfl rfl rfl ?_ | refine zaq (cs := [_, _, _, _]) rfl (fun nb => ?_) | refine zar (fun nb => ?_)) | refine zch ?_ | refine zci rfl ?_ | refine zcj rfl ?_)
      rw [ht]
      refine run_exch 0 (rdV w0 (efV r { J with calls := 4611686018427387904 }) { J with calls := 4611686018427387904 }) rfl (fun g hg => Rds.mono (fun bl h => RdEfV.calls h _) g hg) rfl ?_
      exact run_ret (leaves_nil (ends_take [0] rfl (ends_one rfl (resOk_pt 2 rfl rfl rfl) ⟨rfl, r, rfl, rfl⟩)))
    · rw [if_neg (by omega)] at ht
      have hb := bound_spec w0 (J.calls * n)
      rw [bndC_id hm2 hm1] at hb
      repeat' (first | refine zck ?_ | refine zcp (by kernel_rfl) ?_ | refine run_drawR PP_mixed (by kernel_rfl) (by kernel_rfl) ?_ | refine zcm ?_ | (refine zap rfl ?_; first | (refine zax rfl rfl (by omega) ?_; rw [hX]) | refine zan rfl ?_ | refine zab 0 rfl rfl rfl ?_ | refine zab 3 rfl rfl rfl ?_ | refine zah [] hb rfl rfl rfl sub_nil rfl ?_ | (refine zai [] hj rfl rfl rfl (fun _ h => h) ?_; rintro v Γ ⟨r, rfl, rfl⟩) | refine zao rfl ?_ | refine zbh rfl rfl (by omega) ?_ | refine zbl rfl rfl (by omega) ?_ | refine zaw rfl rfl (by omega) ?_ | refine zae 2 rfl rfl rfl rfl rfl rfl rfl ?_ | refine zae 3 rfl rfl rfl rfl rfl rfl rfl ?_ | refine zaq (cs := [_, _, _, _]) rfl (fun nb => ?_) | refine zar (fun nb => ?_)) | refine zch ?_ | refine zcj rfl ?_)
      rw [ht]
      refine run_exch 0 (rdV w0 (efV r { J with calls := J.calls * n }) { J with calls := J.calls * n }) rfl (fun g hg => Rds.mono (fun bl h => RdEfV.calls h _) g hg) rfl ?_
      exact run_ret (leaves_nil (ends_take [0] rfl (ends_one rfl (resOk_pt 2 rfl rfl rfl) ⟨rfl, r, rfl, rfl⟩)))
end Go.Proofs.YtjapaghhgpaldaaGreatDoor

