import Derived.Test.YtagmagnkigjggaaGreatDoorRows
import Derived.Test.YtagmagnkigjggaaGreatDoorTie
import Derived.Test.YtagmagnkigjggaaGreatDoorCards
import Derived.SevenTiedAt
import Derived.OpenShut
import Derived.Handed
import Derived.Lib.LaidTab
import Derived.Test.YtagmagnkigjggaaGreatDoorPart5
import Derived.Test.YtagmagnkigjggaaGreatDoorKit
import Derived.Test.YtagmagnkigjggaaGreatDoorPart3
/- Lemmas and walks for the claims of this seat (own work): Fi6 Re0 Re1 Gr0 Gd0 Rp0 Pp0 Eo0 Eo1 Nm0 Rn0 Pp1 Eo2 Eo3. -/
namespace Sim
open Go Go.Vc
theorem lookK_none {s : ByteArray} : ∀ {l : List (ByteArray × ByteArray)}, inS (l.map (·.1)) s = false → lookK l s = none
  | [], _ => rfl
  | d :: l, h => by
    simp only [inS, List.map_cons, List.any_cons, Bool.or_eq_false_iff] at h
    rw [lookK, if_neg (by simpa using h.1)]
    exact lookK_none h.2
theorem freshN_in {met more : List ByteArray} {s : ByteArray} (h : freshN met s more = 0) : inS met s = false := by
  unfold freshN at h
  split at h
  · omega
  · split at h
    · omega
    · rename_i h2; simpa using h2
theorem wrongD_fresh {l : List (ByteArray × ByteArray)} (h : wrongD [] l = 0) : ∀ (j : Nat), j ≤ l.length → wrongD ((l.take j).map (·.1)) (l.drop j) = 0
  | 0, _ => h
  | j + 1, hj => by
    have ih := wrongD_fresh h j (by omega)
    obtain ⟨x, hx⟩ : ∃ x, l[j]? = some x := ⟨_, List.getElem?_eq_getElem (by omega)⟩
    rw [wrongD_drop hx] at ih
    by_cases h0 : freshN ((l.take j).map (·.1)) x.1 [x.2] = 0
    · rw [if_neg (by omega)] at ih
      rw [take_snoc hx, List.map_append]
      exact ih
    · rw [if_pos h0] at ih; exact absurd ih h0
theorem kS_next {l : List (ByteArray × ByteArray)} {j : Nat} {x : ByteArray × ByteArray} (h : wrongD [] l = 0) (hx : l[j]? = some x) : insS (kS (l.take j)) x.1 (.string x.2) = kS (l.take (j + 1)) := by
  have hj := (List.getElem?_eq_some_iff.1 hx).1
  have h1 := wrongD_fresh h j (by omega)
  rw [wrongD_drop hx] at h1
  have h0 : freshN ((l.take j).map (·.1)) x.1 [x.2] = 0 := by
    by_cases h0 : freshN ((l.take j).map (·.1)) x.1 [x.2] = 0
    · exact h0
    · rw [if_pos h0] at h1; exact absurd h1 h0
  rw [insS_none _ _ _ (by rw [lookK_S, lookK_none (freshN_in h0)]; rfl), take_snoc hx]
  simp [kS]
theorem wrongO_body {met : List ByteArray} {o : PO} (h : wrongO met o = 0) : wrongSs o.body 1 = 0 := by
  unfold wrongO at h
  split at h
  · rename_i h1; exact absurd h h1
  · split at h
    · omega
    · split at h
      · rename_i h1; exact absurd h h1
      · exact h
theorem wrongOs_mem : ∀ {l : List PO} {met : List ByteArray}, wrongOs met l = 0 → ∀ o ∈ l, wrongSs o.body 1 = 0
  | [], _, _, o, ho => by simp at ho
  | x :: l, met, h, o, ho => by
    rw [wrongOs] at h
    by_cases h1 : wrongO met x = 0
    · rw [if_neg (by omega)] at h
      rcases List.mem_cons.1 ho with rfl | ho
      · exact wrongO_body h1
      · exact wrongOs_mem h o ho
    · rw [if_pos h1] at h; exact absurd h h1
theorem checkP_zero {p : PP'} (h : checkP p = 0) : p.stores.length ≤ 12 ∧ p.opers.length ≤ 32 ∧ wrongD [] p.stores = 0 ∧ wrongOs [] p.opers = 0 := by
  unfold checkP at h
  split at h
  · omega
  · split at h
    · rename_i h1; exact absurd h h1
    · rename_i h1 h2; exact ⟨by omega, by omega, by simpa using h2, h⟩
end Sim
namespace Go.Proofs.YtagmagnkigjggaaGreatDoor
open Go.Vc Sim
def OSpec (w0 : World) (sh : Shared) (v : Value) (oper : ByteArray) (r : Ef × Int) : Prop :=
  Vc.Fn PP w0 sh 6 [v, .string oper] [] (fun x Γ => ∃ q : P6, x = .tuple #[efV q r.1, .int .i64 r.2] ∧ Γ = [rdV w0 (efV q r.1) r.1])
set_option maxHeartbeats 4000000 in
theorem of_spec (w0 : World) (hk : KwOk w0) (sh : Shared) (v : Value) (p : PP') (oper : ByteArray) (hp : RdP w0 sh v p) (hs : PP'.small p) (hb : ∀ o ∈ p.opers, PS.sizeL o.body ≤ 10000) : OSpec w0 sh v oper (ofP p oper) := by
  have hck := check_spec w0 hk sh v p hp hs
  have hfd := find_spec w0 sh v p oper hp hs.2.1
  unfold OSpec
  obtain ⟨vs, vo, hv, h1, h2⟩ := hp
  subst hv
  obtain ⟨a1, c1, hvs, hc1, _⟩ := id h1
  obtain ⟨a2, c2, hvo, hc2⟩ := h2.len
  subst hvs; subst hvo
  by_cases hC : checkP p = 0
  · obtain ⟨z1, z2, z3, z4⟩ := checkP_zero hC
    rw [hC] at hck
    cases hF : findP p oper with
    | none =>
      have ho : ofP p oper = (zeroE, 10) := by unfold ofP; rw [if_neg (by omega), hF]
      rw [ho]
      rw [hF] at hfd
      dsimp only at hfd ⊢
      refine fn_of_run en6 fn6 rfl rfl rfl ?_
      repeat (first | refine zck ?_ | refine zcl ?_ | refine zcm ?_ | refine zcn ?_)
      first | refine zcp (by kernel_rfl) ?_ | refine zcq PP_mixed (by kernel_rfl) (by kernel_rfl) ?_
      repeat' (refine zap rfl ?_; first | refine zan rfl ?_ | refine zaq (cs := [_, _]) rfl (fun nb => ?_) | refine zar (fun nb => ?_))
      all_goals refine zch ?_
      all_goals repeat (first | refine zck ?_ | refine zcl ?_ | refine zcm ?_ | refine zcn ?_)
      refine run_share [0] rfl ?_
      repeat' (first | refine zck ?_ | refine zcp (by kernel_rfl) ?_ | refine zcm ?_ | (refine zap rfl ?_; first | refine zan rfl ?_ | refine zan rfl ?_ | refine zaa 0 rfl rfl rfl ?_ | refine zah [] hck rfl rfl rfl (fun p hp => by simp [hp]) rfl ?_ | (refine zai [] hfd rfl rfl rfl (fun p hp => by simp [hp]) ?_; rintro v Γ ⟨rfl, rfl⟩) | refine zce rfl ?_ | refine zan rfl ?_ | refine zbf rfl rfl (by omega) ?_ | refine zbx rfl ?_ | refine zae 0 rfl rfl rfl rfl rfl rfl rfl ?_ | refine zae 1 rfl rfl rfl rfl rfl rfl rfl ?_ | refine zar (fun nb => ?_) | refine zcb rfl ?_) | refine zch ?_ | refine zci rfl ?_ | refine zcj rfl ?_)
      refine run_emptyR (fun bl => RdEfV w0 bl (efV p0 zeroE) zeroE) RdEfV.zero ?_
      exact run_ret (leaves_nil (ends_take [0] rfl (ends_two rfl (resOk_pt 1 rfl rfl rfl) rfl ⟨rfl, p0, rfl, rfl⟩)))
    | some o =>
      rw [hF] at hfd
      dsimp only at hfd
      have hom : o ∈ p.opers := List.mem_of_find?_eq_some hF
      have hwb := wrongOs_mem z4 o hom
      have hbo := hb o hom
      have ho : ofP p oper = if (stmtEs p.stores o.body zeroE 0).2 ≠ 0 then (zeroE, (stmtEs p.stores o.body zeroE 0).2) else ((stmtEs p.stores o.body zeroE 0).1, 0) := by unfold ofP; rw [if_neg (by omega), hF]
      rw [ho]
      refine fn_of_run en6 fn6 rfl rfl rfl ?_
      repeat (first | refine zck ?_ | refine zcl ?_ | refine zcm ?_ | refine zcn ?_)
      first | refine zcp (by kernel_rfl) ?_ | refine zcq PP_mixed (by kernel_rfl) (by kernel_rfl) ?_
      repeat' (refine zap rfl ?_; first | refine zan rfl ?_ | refine zaq (cs := [_, _]) rfl (fun nb => ?_) | refine zar (fun nb => ?_))
      all_goals refine zch ?_
      all_goals repeat (first | refine zck ?_ | refine zcl ?_ | refine zcm ?_ | refine zcn ?_)
      refine run_share [0] rfl ?_
      obtain ⟨b4, hb4⟩ : ∃ b, b = nb := ⟨_, rfl⟩
      subst hb4
      repeat (first | refine zck ?_ | refine zcl ?_ | refine zcm ?_ | refine zcn ?_)
      first | refine zcp (by kernel_rfl) ?_ | refine zcq PP_mixed (by kernel_rfl) (by kernel_rfl) ?_
      repeat' (refine zap rfl ?_; first | refine zan rfl ?_ | refine zaa 0 rfl rfl rfl ?_ | refine zah [] hck rfl rfl rfl (fun p hp => by simp [hp]) rfl ?_ | refine zce rfl ?_ | refine zao rfl ?_)
      all_goals refine zch ?_
      all_goals repeat (first | refine zck ?_ | refine zcl ?_ | refine zcm ?_ | refine zcn ?_)
      repeat (first | refine zck ?_ | refine zcl ?_ | refine zcm ?_ | refine zcn ?_)
      first | refine zcp (by kernel_rfl) ?_ | refine zcq PP_mixed (by kernel_rfl) (by kernel_rfl) ?_
      repeat' (refine zap rfl ?_; first | refine zan rfl ?_ | refine zbf rfl rfl (by omega) ?_)
      all_goals refine zch ?_
      all_goals repeat (first | refine zck ?_ | refine zcl ?_ | refine zcm ?_ | refine zcn ?_)
      refine zcj rfl ?_
      repeat (first | refine zck ?_ | refine zcl ?_ | refine zcm ?_ | refine zcn ?_)
      first | refine zcp (by kernel_rfl) ?_ | refine zcq PP_mixed (by kernel_rfl) (by kernel_rfl) ?_
      repeat' (refine zap rfl ?_; first | refine zan rfl ?_ | refine zan rfl ?_ | refine zaa 0 rfl rfl rfl ?_ | (refine zai [] hfd rfl rfl rfl (fun p hp => by simp [hp]) ?_; rintro v Γ ⟨rfl, v, rfl, cs, rfl, vp, vb, rfl, r1, r2⟩; obtain ⟨a3, c3, hvp, _⟩ := id r1; obtain ⟨a4, c4, hvb, _⟩ := r2.len; subst hvp; subst hvb) | refine zce rfl ?_ | refine zan rfl ?_ | refine zae 1 rfl rfl rfl rfl rfl rfl rfl ?_ | refine zar (fun nb => ?_))
      all_goals refine zch ?_
      all_goals repeat (first | refine zck ?_ | refine zcl ?_ | refine zcm ?_ | refine zcn ?_)
      obtain ⟨b7, hb7⟩ : ∃ b, b = nb := ⟨_, rfl⟩
      subst hb7
      repeat (first | refine zck ?_ | refine zcl ?_ | refine zcm ?_ | refine zcn ?_)
      first | refine zcp (by kernel_rfl) ?_ | refine zcq PP_mixed (by kernel_rfl) (by kernel_rfl) ?_
      repeat' (refine zap rfl ?_; first | refine zan rfl ?_ | refine zbx rfl ?_)
      all_goals refine zch ?_
      all_goals repeat (first | refine zck ?_ | refine zcl ?_ | refine zcm ?_ | refine zcn ?_)
      refine zcj rfl ?_
      repeat (first | refine zck ?_ | refine zcl ?_ | refine zcm ?_ | refine zcn ?_)
      first | refine zcp (by kernel_rfl) ?_ | refine zcq PP_mixed (by kernel_rfl) (by kernel_rfl) ?_
      repeat' (refine zap rfl ?_; first | refine zcc (fun m => ?_) | refine zan rfl ?_ | refine zaq (cs := [_, _]) rfl (fun nb => ?_) | refine zcb rfl ?_)
      all_goals refine zch ?_
      all_goals repeat (first | refine zck ?_ | refine zcl ?_ | refine zcm ?_ | refine zcn ?_)
      obtain ⟨fb, hfb⟩ : ∃ b, b = nb := ⟨_, rfl⟩
      subst hfb
      refine run_exch 2 (MapS m (kS [])) rfl (mapS_make m) rfl ?_
      repeat (first | refine zck ?_ | refine zcl ?_ | refine zcm ?_ | refine zcn ?_)
      first | refine zcp (by kernel_rfl) ?_ | refine zcq PP_mixed (by kernel_rfl) (by kernel_rfl) ?_
      repeat' (refine zap rfl ?_; first | refine zan rfl ?_ | refine zaa 0 rfl rfl rfl ?_ | refine zce rfl ?_ | refine zao rfl ?_)
      all_goals refine zch ?_
      all_goals repeat (first | refine zck ?_ | refine zcl ?_ | refine zcm ?_ | refine zcn ?_)
      refine run_loop (S := Nat) (fun j => [(4, .pointer (some ⟨b4, 0, none⟩)), (7, .pointer (some ⟨b7, 0, none⟩)), (9, .pointer (some ⟨fb, 0, none⟩)), (32, .slice a1 p.stores.length c1), (33, .int .i64 p.stores.length), (34, .int .i64 j)])
        (fun j Γ => Γ = [ePt b4 p0 zeroE, pt b7 (.cells (List.toArray [.string o.name, .slice a3 o.params.length c3, .slice a4 o.body.length c4]) 36 (0, 0)), MapS m (kS (p.stores.take j)), fPt fb m 0] ∧ j ≤ p.stores.length) (fun j => p.stores.length - j) 0
        ⟨rfl, rfl, rfl, rfl, rfl, rfl, trivial⟩ ⟨rfl, by omega⟩ ?_
      rintro j Γ junk ⟨rfl, q1⟩
      by_cases hj : j < p.stores.length
      · obtain ⟨x, hx⟩ : ∃ x, p.stores[j]? = some x := ⟨_, List.getElem?_eq_getElem hj⟩
        obtain ⟨b, off, cc, T, fr, rfl, e2, e3, _⟩ := h1.cells hx
        have hnx := kS_next z3 hx
        have hput : ∀ A B C D : Asn, putAt 2 (MapS m (insS (kS (p.stores.take j)) x.1 (.string x.2))) [A, B, MapS m (kS (p.stores.take j)), C, D] = some [A, B, MapS m (kS (p.stores.take (j + 1))), C, D] := fun A B C D => by rw [hnx]; rfl
        repeat' (first | refine zck ?_ | refine zcp (by kernel_rfl) ?_ | refine run_drawR PP_mixed (by kernel_rfl) (by kernel_rfl) ?_ | refine zcm ?_ | refine zcl ?_ | refine zcn ?_ | (refine zap rfl ?_; first | refine zad rfl (fun hF Γ w h1 h2 => e2 hF Γ w (fun p hp => h1 p (by simp [hp])) h2) (e3 _ (by omega)) ?_ | refine reg_mapUpdateS 2 (u := .string x.2) rfl rfl rfl rfl (hput _ _ _ _) ?_ | refine zan rfl ?_ | refine zab 3 rfl rfl rfl ?_ | refine zab 4 rfl rfl rfl ?_ | refine zao rfl ?_ | refine zbg rfl rfl (by omega) ?_ | refine zau rfl rfl (by omega) ?_ | refine zae 4 rfl rfl rfl rfl rfl rfl rfl ?_ | refine zan rfl ?_ | refine zas rfl rfl (by omega) ?_ | refine zar (fun nb => ?_)) | refine zch ?_ | refine zci rfl ?_)
        refine run_take [0, 0, 0, 0] rfl ?_
        exact cut_end ⟨rfl, j + 1, ⟨rfl, rfl, rfl, rfl, rfl, int_eq (by omega), trivial⟩, ⟨rfl, by omega⟩, by omega⟩
      · have hjl : j = p.stores.length := by omega
        subst hjl
        rw [List.take_length]
        repeat' (first | refine zck ?_ | refine zcp (by kernel_rfl) ?_ | (refine zap rfl ?_; first | refine zbh rfl rfl (by omega) ?_) | refine zch ?_ | refine zcj rfl ?_)
        refine cut_exit rfl rfl ?_
        refine run_shareM [2] rfl ?_
        intro sh' hsub hR
        have hall := all_spec w0 p.stores sh' m fb 0 _ o.body 1 hbo (r2.mono fun p hp => hsub p (by simp [hp])) hR hwb
        repeat (first | refine zck ?_ | refine zcl ?_ | refine zcm ?_ | refine zcn ?_)
        first | refine zcp (by kernel_rfl) ?_ | refine zcq PP_mixed (by kernel_rfl) (by kernel_rfl) ?_
        repeat' (refine zap rfl ?_; first | refine zan rfl ?_ | refine zab 1 rfl rfl rfl ?_ | (refine zai [2] hall rfl rfl rfl (fun _ h => h) ?_; rintro v Γ ⟨q, rfl, rfl⟩) | refine zao rfl ?_ | refine zae 4 rfl rfl rfl rfl rfl rfl rfl ?_ | refine zar (fun nb => ?_))
        all_goals refine zch ?_
        all_goals repeat (first | refine zck ?_ | refine zcl ?_ | refine zcm ?_ | refine zcn ?_)
        generalize stmtEs p.stores o.body zeroE 0 = O at *
        obtain ⟨E, W⟩ := O
        dsimp only at *
        by_cases hW : W = 0
        · subst hW
          rw [if_neg (by decide)]
          dsimp only
          repeat' (first | refine zck ?_ | refine zcp (by kernel_rfl) ?_ | refine zcm ?_ | (refine zap rfl ?_; first | refine zan rfl ?_ | refine zan rfl ?_ | refine zab 1 rfl rfl rfl ?_ | refine zab 4 rfl rfl rfl ?_ | refine zao rfl ?_ | refine zbf rfl rfl (by omega) ?_ | refine zae 2 rfl rfl rfl rfl rfl rfl rfl ?_ | refine zan rfl ?_) | refine zch ?_ | refine zcj rfl ?_)
          exact run_ret (leaves_nil (ends_take [0] rfl (ends_two rfl (resOk_pt 2 rfl rfl rfl) rfl ⟨rfl, q, rfl, rfl⟩)))
        · rw [if_pos hW]
          dsimp only
          repeat (first | refine zck ?_ | refine zcl ?_ | refine zcm ?_ | refine zcn ?_)
          first | refine zcp (by kernel_rfl) ?_ | refine zcq PP_mixed (by kernel_rfl) (by kernel_rfl) ?_
          repeat' (refine zap rfl ?_; first | refine zan rfl ?_ | refine zab 1 rfl rfl rfl ?_ | refine zao rfl ?_ | refine zbe rfl rfl (by omega) ?_ | refine zan rfl ?_)
          all_goals refine zch ?_
          all_goals repeat (first | refine zck ?_ | refine zcl ?_ | refine zcm ?_ | refine zcn ?_)
          refine zci rfl ?_
          refine run_share [1] rfl ?_
          repeat' (first | refine zck ?_ | refine zcq PP_mixed (by kernel_rfl) (by kernel_rfl) ?_ | (refine zap rfl ?_; first | refine zan rfl ?_ | refine zan rfl ?_ | refine zaa 0 rfl rfl rfl ?_ | refine zao rfl ?_ | refine zae 1 rfl rfl rfl rfl rfl rfl rfl ?_ | refine zan rfl ?_ | refine zcb rfl ?_) | refine zch ?_)
          refine run_emptyR (fun bl => RdEfV w0 bl (efV p0 zeroE) zeroE) RdEfV.zero ?_
          exact run_ret (leaves_nil (ends_take [0] rfl (ends_two rfl (resOk_pt 2 rfl rfl rfl) rfl ⟨rfl, p0, rfl, rfl⟩)))
  · have ho : ofP p oper = (zeroE, checkP p) := by unfold ofP; rw [if_pos hC]
    rw [ho]
    dsimp only
    refine fn_of_run en6 fn6 rfl rfl rfl ?_
    repeat (first | refine zck ?_ | refine zcl ?_ | refine zcm ?_ | refine zcn ?_)
    first | refine zcp (by kernel_rfl) ?_ | refine zcq PP_mixed (by kernel_rfl) (by kernel_rfl) ?_
    repeat' (refine zap rfl ?_; first | refine zan rfl ?_ | refine zaq (cs := [_, _]) rfl (fun nb => ?_) | refine zar (fun nb => ?_))
    all_goals refine zch ?_
    all_goals repeat (first | refine zck ?_ | refine zcl ?_ | refine zcm ?_ | refine zcn ?_)
    refine run_share [0] rfl ?_
    repeat' (first | refine zck ?_ | refine zcp (by kernel_rfl) ?_ | (refine zap rfl ?_; first | refine zan rfl ?_ | refine zan rfl ?_ | refine zaa 0 rfl rfl rfl ?_ | refine zah [] hck rfl rfl rfl (fun p hp => by simp [hp]) rfl ?_ | refine zce rfl ?_ | refine zbe rfl rfl (by omega) ?_ | refine zae 0 rfl rfl rfl rfl rfl rfl rfl ?_ | refine zcb rfl ?_) | refine zch ?_ | refine zci rfl ?_)
    refine run_emptyR (fun bl => RdEfV w0 bl (efV p0 zeroE) zeroE) RdEfV.zero ?_
    exact run_ret (leaves_nil (ends_take [0] rfl (ends_two rfl (resOk_pt 1 rfl rfl rfl) rfl ⟨rfl, p0, rfl, rfl⟩)))
end Go.Proofs.YtagmagnkigjggaaGreatDoor

namespace Sim
def sameE (a b : Ef) : Bool := decide (a.reads = b.reads) && decide (a.writes = b.writes) && decide (a.hosts = b.hosts) && decide (a.calls = b.calls)
theorem sameE_self (a : Ef) : sameE a a = true := by simp [sameE]
end Sim
namespace Go.Proofs.YtagmagnkigjggaaGreatDoor
open Go.Vc Sim
theorem sameNames_spec (w0 : World) (sh : Shared) (va vb : Value) (a b : List ByteArray) (ha : RdSl w0 sh encY 1 va a) (hb : RdSl w0 sh encY 1 vb b) (hn : a.length ≤ 1099511627776) (hn2 : b.length ≤ 1099511627776) :
    FnE PP w0 sh 20 [va, vb] [] (.bool (decide (a = b))) [] := by
  obtain ⟨x1, y1, rfl⟩ := ha.val
  obtain ⟨x2, y2, rfl⟩ := hb.val
  refine fn_of_run en20 fn20 rfl rfl rfl ?_
  by_cases hl : a.length = b.length
  · repeat' (first | refine zck ?_ | refine zcp (by kernel_rfl) ?_ | refine zcm ?_ | refine zcl ?_ | (refine zap rfl ?_; first | refine zan rfl ?_ | refine zan rfl ?_ | refine zce rfl ?_ | refine zbf rfl rfl (by omega) ?_) | refine zch ?_ | refine zcj rfl ?_)
    refine run_loop (S := Nat) (fun j => [(0, .slice x1 a.length y1), (1, .slice x2 b.length y2), (5, .int .i64 j)]) (fun j Γ => Γ = [] ∧ j ≤ a.length ∧ a.take j = b.take j) (fun j => a.length - j) 0 ⟨rfl, rfl, rfl, trivial⟩ ⟨rfl, by omega, rfl⟩ ?_
    rintro j Γ junk ⟨rfl, g1, g2⟩
    by_cases hj : j < a.length
    · obtain ⟨x, hx⟩ : ∃ x, a[j]? = some x := ⟨_, List.getElem?_eq_getElem hj⟩
      obtain ⟨y, hy⟩ : ∃ y, b[j]? = some y := ⟨_, List.getElem?_eq_getElem (by omega)⟩
      obtain ⟨b1, o1, k1, T1, f1, rfl, e2, _, e3⟩ := ha.cells hx
      obtain ⟨b2, o2, k2, T2, f2, rfl, g3, _, g4⟩ := hb.cells hy
      have r1 : ∀ o, o = o1 + j * 1 + 0 → rd false 1 k1.toList o = some (.string x) := fun o ho => e3 0 _ rfl o ho
      have r2 : ∀ o, o = o2 + j * 1 + 0 → rd false 1 k2.toList o = some (.string y) := fun o ho => g4 0 _ rfl o ho
      by_cases hxy : x = y
      · subst hxy
        repeat' (first | refine zck ?_ | refine zcp (by kernel_rfl) ?_ | refine zcq PP_mixed (by kernel_rfl) (by kernel_rfl) ?_ | refine zcm ?_ | refine zcl ?_ | refine zcn ?_ | (refine zap rfl ?_; first | refine zad rfl e2 (r1 _ (by omega)) ?_ | refine zad rfl g3 (r2 _ (by omega)) ?_ | refine reg_neSF rfl rfl rfl ?_ | refine zan rfl ?_ | refine zan rfl ?_ | refine zce rfl ?_ | refine zbg rfl rfl (by omega) ?_ | refine zau rfl rfl (by omega) ?_ | refine zas rfl rfl (by omega) ?_) | refine zch ?_ | refine zci rfl ?_ | refine zcj rfl ?_)
        exact cut_end ⟨rfl, j + 1, ⟨rfl, rfl, int_eq (by omega), trivial⟩, ⟨rfl, by omega, by rw [take_snoc hx, take_snoc hy, g2]⟩, by omega⟩
      · have hne : ¬ a = b := fun e => by subst e; rw [hx] at hy; exact hxy (Option.some.inj hy)
        repeat' (first | refine zck ?_ | refine zcp (by kernel_rfl) ?_ | refine zcq PP_mixed (by kernel_rfl) (by kernel_rfl) ?_ | refine zcm ?_ | refine zcl ?_ | (refine zap rfl ?_; first | refine zad rfl e2 (r1 _ (by omega)) ?_ | refine zad rfl g3 (r2 _ (by omega)) ?_ | refine reg_neST rfl rfl hxy ?_ | refine zan rfl ?_ | refine zan rfl ?_ | refine zce rfl ?_ | refine zbg rfl rfl (by omega) ?_ | refine zas rfl rfl (by omega) ?_) | refine zch ?_ | refine zci rfl ?_)
        exact qret1 (fun _ _ h => h) rfl ⟨by rw [decide_eq_false hne]; rfl, rfl⟩
    · have he : a = b := by
        rw [List.take_of_length_le (by omega), List.take_of_length_le (by omega)] at g2
        exact g2
      repeat' (first | refine zck ?_ | refine zcp (by kernel_rfl) ?_ | (refine zap rfl ?_; first | refine zan rfl ?_ | refine zce rfl ?_ | refine zbh rfl rfl (by omega) ?_) | refine zch ?_ | refine zcj rfl ?_)
      refine cut_exit rfl rfl ?_
      repeat' (first | refine zck ?_ | refine zcp (by kernel_rfl) ?_ | (refine zap rfl ?_; first | refine zan rfl ?_) | refine zch ?_)
      exact ret_tmp1 rfl ⟨by rw [decide_eq_true he]; rfl, rfl⟩
  · have hne : ¬ a = b := fun e => hl (by rw [e])
    repeat' (first | refine zck ?_ | refine zcp (by kernel_rfl) ?_ | (refine zap rfl ?_; first | refine zan rfl ?_ | refine zan rfl ?_ | refine zce rfl ?_ | refine zbe rfl rfl (by omega) ?_) | refine zch ?_ | refine zci rfl ?_)
    exact ret_tmp1 rfl ⟨by rw [decide_eq_false hne]; rfl, rfl⟩
theorem same_spec (w0 : World) (sh : Shared) (va vb : Value) (a b : Ef) (ha : RdEfV w0 sh va a) (hb : RdEfV w0 sh vb b) (sa : a.sm 1000000) (sb : b.sm 1000000) :
    FnE PP w0 sh 9 [va, vb] [] (.bool (sameE a b)) [] := by
  obtain ⟨_, rfl, v1, v2, v3, rfl, h1, h2, h3⟩ := ha
  obtain ⟨_, rfl, u1, u2, u3, rfl, g1, g2, g3⟩ := hb
  obtain ⟨s1, s2, s3⟩ := sa
  obtain ⟨t1, t2, t3⟩ := sb
  have c1 := sameNames_spec w0 sh _ _ _ _ h1 g1 (by omega) (by omega)
  have c2 := sameNames_spec w0 sh _ _ _ _ h2 g2 (by omega) (by omega)
  have c3 := sameNames_spec w0 sh _ _ _ _ h3 g3 (by omega) (by omega)
  unfold sameE
  obtain ⟨a1, d1, rfl⟩ := h1.val
  obtain ⟨a2, d2, rfl⟩ := h2.val
  obtain ⟨a3, d3, rfl⟩ := h3.val
  obtain ⟨b1, e1, rfl⟩ := g1.val
  obtain ⟨b2, e2, rfl⟩ := g2.val
  obtain ⟨b3, e3, rfl⟩ := g3.val
  refine fn_of_run en9 fn9 rfl rfl rfl ?_
  repeat (first | refine zck ?_ | refine zcl ?_ | refine zcm ?_ | refine zcn ?_)
  first | refine zcp (by kernel_rfl) ?_ | refine zcq PP_mixed (by kernel_rfl) (by kernel_rfl) ?_
  repeat' (refine zap rfl ?_; first | refine zan rfl ?_ | refine zaq (cs := [_, _, _, _]) rfl (fun nb => ?_))
  all_goals refine zch ?_
  all_goals repeat (first | refine zck ?_ | refine zcl ?_ | refine zcm ?_ | refine zcn ?_)
  refine run_share [0] rfl ?_
  refine run_share [0] rfl ?_
  cases q1 : decide (a.reads = b.reads) with
  | false =>
    rw [q1] at c1
    repeat' (first | refine zcp (by kernel_rfl) ?_ | (refine zap rfl ?_; first | refine zak rfl ?_ | refine zan rfl ?_ | refine zan rfl ?_ | refine zaa 0 rfl rfl rfl ?_ | refine zaa 1 rfl rfl rfl ?_ | refine zah [] c1 rfl rfl rfl (fun p hp => by simp [hp]) rfl ?_ | refine zao rfl ?_ | refine zbv rfl ?_) | refine zch ?_)
    exact ret_tmp1 rfl ⟨rfl, rfl⟩
  | true =>
    rw [q1] at c1
    cases q2 : decide (a.writes = b.writes) with
    | false =>
      rw [q2] at c2
      repeat' (first | refine zcp (by kernel_rfl) ?_ | (refine zap rfl ?_; first | refine zaj rfl ?_ | refine zak rfl ?_ | refine zan rfl ?_ | refine zan rfl ?_ | refine zaa 0 rfl rfl rfl ?_ | refine zaa 1 rfl rfl rfl ?_ | refine zah [] c1 rfl rfl rfl (fun p hp => by simp [hp]) rfl ?_ | refine zah [] c2 rfl rfl rfl (fun p hp => by simp [hp]) rfl ?_ | refine zao rfl ?_ | refine zbu rfl ?_ | refine zbv rfl ?_) | refine zch ?_)
      exact ret_tmp1 rfl ⟨rfl, rfl⟩
    | true =>
      rw [q2] at c2
      cases q3 : decide (a.hosts = b.hosts) with
      | false =>
        rw [q3] at c3
        repeat' (first | refine zcp (by kernel_rfl) ?_ | (refine zap rfl ?_; first | refine zaj rfl ?_ | refine zak rfl ?_ | refine zan rfl ?_ | refine zan rfl ?_ | refine zaa 0 rfl rfl rfl ?_ | refine zaa 1 rfl rfl rfl ?_ | refine zah [] c1 rfl rfl rfl (fun p hp => by simp [hp]) rfl ?_ | refine zah [] c2 rfl rfl rfl (fun p hp => by simp [hp]) rfl ?_ | refine zah [] c3 rfl rfl rfl (fun p hp => by simp [hp]) rfl ?_ | refine zao rfl ?_ | refine zbu rfl ?_ | refine zbv rfl ?_) | refine zch ?_)
        exact ret_tmp1 rfl ⟨rfl, rfl⟩
      | true =>
        rw [q3] at c3
        repeat' (first | refine zcp (by kernel_rfl) ?_ | (refine zap rfl ?_; first | refine zaj rfl ?_ | refine zan rfl ?_ | refine zan rfl ?_ | refine zaa 0 rfl rfl rfl ?_ | refine zaa 1 rfl rfl rfl ?_ | refine zah [] c1 rfl rfl rfl (fun p hp => by simp [hp]) rfl ?_ | refine zah [] c2 rfl rfl rfl (fun p hp => by simp [hp]) rfl ?_ | refine zah [] c3 rfl rfl rfl (fun p hp => by simp [hp]) rfl ?_ | refine zao rfl ?_ | refine zbo rfl rfl ?_ | refine zbu rfl ?_) | refine zch ?_)
        exact ret_tmp1 rfl ⟨rfl, rfl⟩
theorem ofE_spec (w0 : World) (p : P6) (e : Ef) : FnE PP w0 [] 10 [efV p e] [] (efV p e) [] := by
  refine fn_of_run en10 fn10 rfl rfl rfl ?_
  repeat' (first | refine zck ?_ | refine zcp (by kernel_rfl) ?_ | (refine zap rfl ?_; first | refine zab 0 rfl rfl rfl ?_ | refine zae 1 rfl rfl rfl rfl rfl rfl rfl ?_ | refine zaq (cs := [_, _, _, _]) rfl (fun nb => ?_) | refine zar (fun nb => ?_)) | refine zch ?_)
  exact run_ret (leaves_nil (ends_take [] rfl (ends_one rfl (resOk_pt 1 rfl rfl rfl) ⟨rfl, rfl, rfl⟩)))
end Go.Proofs.YtagmagnkigjggaaGreatDoor

namespace Sim
def awK : PE := .mk 2 0 (bs [107]) (bs []) [] []
def awGet : PE := .mk 6 0 (bs [98]) (bs [103, 101, 116]) [] []
def awOne : PE := .mk 0 1 (bs []) (bs []) [] []
def awZ : PE := .mk 0 0 (bs []) (bs []) [] []
def awPush : PS := .mk 2 (bs []) 0 (.mk 6 0 (bs [97]) (bs [112, 117, 115, 104]) [awGet] []) [] []
def awAdd : PS := .mk 2 (bs []) 0 (.mk 6 0 (bs [98]) (bs [97, 100, 100]) [awOne] []) [] []
def awHost : PS := .mk 2 (bs []) 0 (.mk 6 0 (bs [98]) (bs [97, 100, 100]) [.mk 7 0 (bs [100, 111, 117, 98, 108, 101]) (bs []) [awK] []] []) [] []
def awIf : PS := .mk 3 (bs []) 0 (.mk 5 0 (bs []) (bs [62]) [awK, awZ] []) [awPush] [awAdd]
def awRep : PS := .mk 4 (bs []) 3 awZ [awHost] []
def awO : PO := ⟨bs [102], [bs [107]], [awIf, awRep]⟩
def awP : PP' := ⟨[(bs [97], bs [115, 116, 97, 99, 107]), (bs [98], bs [99, 111, 117, 110, 116, 101, 114])], [awO]⟩
def awE : Ef := ⟨[bs [97], bs [98]], [bs [97], bs [98]], [bs [100, 111, 117, 98, 108, 101]], 5⟩
theorem awP_of : ofP awP (bs [102]) = (awE, 0) := by kernel_rfl
end Sim
namespace Go.Vc
open Sim
theorem RdC.of {w0 : World} {sh : Shared} {m b : Nat} {cl : List (List Value)} {T : TypeId} {fr : Nat × Nat} (hq : ∀ x ∈ cl, x.length = m) (h : (b, Obj.cells (List.toArray (cl.flatMap fun x => x)) T fr) ∈ sh) : RdC w0 sh m (.slice (some ⟨b, 0, none⟩) cl.length cl.length) cl :=
  RdSl.flat (encE := fun x : List Value => x) (q := m) (w0 := w0) (b := b) (l := cl) hq h
theorem RdEl.nil0 {w0 : World} {sh : Shared} : RdEl w0 sh (.slice none 0 0) [] := ⟨[], RdSl.nil, by unfold RdEs; rfl⟩
theorem RdSt.nil0 {w0 : World} {sh : Shared} : RdSt w0 sh (.slice none 0 0) [] := ⟨[], RdSl.nil, by unfold RdSs; rfl⟩
theorem RdEl.one {w0 : World} {sh : Shared} {b : Nat} {e : PE} {c : List Value} {T : TypeId} {fr : Nat × Nat} (he : RdE w0 sh e c) (hc : c.length = 6) (h : (b, Obj.cells (List.toArray (c ++ [])) T fr) ∈ sh) : RdEl w0 sh (.slice (some ⟨b, 0, none⟩) 1 1) [e] :=
  ⟨[c], RdC.of (cl := [c]) (fun x hx => by rw [List.mem_singleton.1 hx]; exact hc) h, by unfold RdEs; exact ⟨c, [], rfl, he, by unfold RdEs; rfl⟩⟩
theorem RdEl.two {w0 : World} {sh : Shared} {b : Nat} {e e' : PE} {c c' : List Value} {T : TypeId} {fr : Nat × Nat} (he : RdE w0 sh e c) (hc : c.length = 6) (he' : RdE w0 sh e' c') (hc' : c'.length = 6) (h : (b, Obj.cells (List.toArray (c ++ (c' ++ []))) T fr) ∈ sh) : RdEl w0 sh (.slice (some ⟨b, 0, none⟩) 2 2) [e, e'] :=
  ⟨[c, c'], RdC.of (cl := [c, c']) (fun x hx => by simp at hx; rcases hx with rfl | rfl <;> assumption) h, by unfold RdEs; exact ⟨c, [c'], rfl, he, by unfold RdEs; exact ⟨c', [], rfl, he', by unfold RdEs; rfl⟩⟩⟩
theorem RdSt.one {w0 : World} {sh : Shared} {b : Nat} {e : PS} {c : List Value} {T : TypeId} {fr : Nat × Nat} (he : RdS w0 sh e c) (hc : c.length = 11) (h : (b, Obj.cells (List.toArray (c ++ [])) T fr) ∈ sh) : RdSt w0 sh (.slice (some ⟨b, 0, none⟩) 1 1) [e] :=
  ⟨[c], RdC.of (cl := [c]) (fun x hx => by rw [List.mem_singleton.1 hx]; exact hc) h, by unfold RdSs; exact ⟨c, [], rfl, he, by unfold RdSs; rfl⟩⟩
theorem RdSt.two {w0 : World} {sh : Shared} {b : Nat} {e e' : PS} {c c' : List Value} {T : TypeId} {fr : Nat × Nat} (he : RdS w0 sh e c) (hc : c.length = 11) (he' : RdS w0 sh e' c') (hc' : c'.length = 11) (h : (b, Obj.cells (List.toArray (c ++ (c' ++ []))) T fr) ∈ sh) : RdSt w0 sh (.slice (some ⟨b, 0, none⟩) 2 2) [e, e'] :=
  ⟨[c, c'], RdC.of (cl := [c, c']) (fun x hx => by simp at hx; rcases hx with rfl | rfl <;> assumption) h, by unfold RdSs; exact ⟨c, [c'], rfl, he, by unfold RdSs; exact ⟨c', [], rfl, he', by unfold RdSs; rfl⟩⟩⟩
theorem RdS.of {w0 : World} {sh : Shared} {s : PS} {va vo vb ve : Value} (h1 : RdEl w0 sh va s.expr.args) (h2 : RdEl w0 sh vo s.expr.or) (h3 : RdSt w0 sh vb s.body) (h4 : RdSt w0 sh ve s.els) : RdS w0 sh s (psC s va vo vb ve) := by
  cases s
  obtain ⟨cl, g1, g2⟩ := h3
  obtain ⟨cl', g3, g4⟩ := h4
  have he := RdE.of h1 h2
  unfold RdS
  exact ⟨_, vb, ve, cl, cl', rfl, he, g1, g2, g3, g4⟩
theorem RdOl.one {w0 : World} {sh : Shared} {b : Nat} {o : PO} {c : List Value} {T : TypeId} {fr : Nat × Nat} (ho : RdO w0 sh o c) (hc : c.length = 3) (h : (b, Obj.cells (List.toArray (c ++ [])) T fr) ∈ sh) : RdOl w0 sh (.slice (some ⟨b, 0, none⟩) 1 1) [o] :=
  ⟨[c], RdC.of (cl := [c]) (fun x hx => by rw [List.mem_singleton.1 hx]; exact hc) h, c, [], rfl, ho, rfl⟩
end Go.Vc
namespace Go.Proofs.YtagmagnkigjggaaGreatDoor
open Go.Vc Sim
set_option maxHeartbeats 4000000 in
theorem awake_spec (w0 : World) (hk : KwOk w0) : FnE PP w0 [] 5 [] [] (.bool true) [] := by
  refine fn_of_run en5 fn5 rfl rfl rfl ?_
  repeat (first | refine zck ?_ | refine zcl ?_ | refine zcm ?_ | refine zcn ?_)
  first | refine zcp (by kernel_rfl) ?_ | refine zcq PP_mixed (by kernel_rfl) (by kernel_rfl) ?_
  repeat' (refine zap rfl ?_; first | refine zan rfl ?_)
  all_goals refine zch ?_
  all_goals repeat (first | refine zck ?_ | refine zcl ?_ | refine zcm ?_ | refine zcn ?_)
  repeat (first | refine zck ?_ | refine zcl ?_ | refine zcm ?_ | refine zcn ?_)
  first | refine zcp (by kernel_rfl) ?_ | refine zcq PP_mixed (by kernel_rfl) (by kernel_rfl) ?_
  repeat' (refine zap rfl ?_; first | refine zar (fun t1 => ?_) | refine zae 0 rfl rfl rfl rfl rfl rfl rfl ?_ | refine zcb rfl ?_)
  all_goals refine zch ?_
  all_goals repeat (first | refine zck ?_ | refine zcl ?_ | refine zcm ?_ | refine zcn ?_)
  refine run_share [0] rfl ?_
  repeat (first | refine zck ?_ | refine zcl ?_ | refine zcm ?_ | refine zcn ?_)
  first | refine zcp (by kernel_rfl) ?_ | refine zcq PP_mixed (by kernel_rfl) (by kernel_rfl) ?_
  repeat' (refine zap rfl ?_; first | refine zar (fun t2 => ?_) | refine zae 0 rfl rfl rfl rfl rfl rfl rfl ?_ | refine zcb rfl ?_)
  all_goals refine zch ?_
  all_goals repeat (first | refine zck ?_ | refine zcl ?_ | refine zcm ?_ | refine zcn ?_)
  refine run_share [0] rfl ?_
  repeat (first | refine zck ?_ | refine zcl ?_ | refine zcm ?_ | refine zcn ?_)
  first | refine zcp (by kernel_rfl) ?_ | refine zcq PP_mixed (by kernel_rfl) (by kernel_rfl) ?_
  repeat' (refine zap rfl ?_; first | refine reg_buildSlice rfl rfl rfl rfl rfl rfl (fun s12 => ?_) | refine zar (fun t3 => ?_) | refine zaa 0 rfl rfl rfl ?_ | refine zae 1 rfl rfl rfl rfl rfl rfl rfl ?_ | refine zcb rfl ?_)
  all_goals refine zch ?_
  all_goals repeat (first | refine zck ?_ | refine zcl ?_ | refine zcm ?_ | refine zcn ?_)
  refine run_share [0] rfl ?_
  refine run_share [0] rfl ?_
  repeat (first | refine zck ?_ | refine zcl ?_ | refine zcm ?_ | refine zcn ?_)
  first | refine zcp (by kernel_rfl) ?_ | refine zcq PP_mixed (by kernel_rfl) (by kernel_rfl) ?_
  repeat' (refine zap rfl ?_; first | refine reg_buildSlice rfl rfl rfl rfl rfl rfl (fun s16 => ?_) | refine zar (fun t4 => ?_) | refine zae 1 rfl rfl rfl rfl rfl rfl rfl ?_ | refine zcb rfl ?_)
  all_goals refine zch ?_
  all_goals repeat (first | refine zck ?_ | refine zcl ?_ | refine zcm ?_ | refine zcn ?_)
  refine run_share [0] rfl ?_
  refine run_share [0] rfl ?_
  repeat (first | refine zck ?_ | refine zcl ?_ | refine zcm ?_ | refine zcn ?_)
  first | refine zcp (by kernel_rfl) ?_ | refine zcq PP_mixed (by kernel_rfl) (by kernel_rfl) ?_
  repeat' (refine zap rfl ?_; first | refine reg_buildSlice rfl rfl rfl rfl rfl rfl (fun s20 => ?_) | refine zar (fun t5 => ?_) | refine zaa 5 rfl rfl rfl ?_ | refine zae 2 rfl rfl rfl rfl rfl rfl rfl ?_ | refine zcb rfl ?_)
  all_goals refine zch ?_
  all_goals repeat (first | refine zck ?_ | refine zcl ?_ | refine zcm ?_ | refine zcn ?_)
  rename_i s20a
  refine run_share [0] rfl ?_
  refine run_share [0] rfl ?_
  refine run_share [0] rfl ?_
  repeat (first | refine zck ?_ | refine zcl ?_ | refine zcm ?_ | refine zcn ?_)
  first | refine zcp (by kernel_rfl) ?_ | refine zcq PP_mixed (by kernel_rfl) (by kernel_rfl) ?_
  repeat' (refine zap rfl ?_; first | refine zaa 8 rfl rfl rfl ?_ | refine zae 8 rfl rfl rfl rfl rfl rfl rfl ?_ | refine reg_buildSlice rfl rfl rfl rfl rfl rfl (fun s43 => ?_) | refine zar (fun t6 => ?_) | refine zaa 0 rfl rfl rfl ?_ | refine zaa 3 rfl rfl rfl ?_ | refine zaa 5 rfl rfl rfl ?_ | refine zcb rfl ?_)
  all_goals refine zch ?_
  all_goals repeat (first | refine zck ?_ | refine zcl ?_ | refine zcm ?_ | refine zcn ?_)
  rename_i s27 s28 s31 s34 s36 s39 s41
  refine run_share [0] rfl ?_
  refine run_share [0] rfl ?_
  refine run_share [0] rfl ?_
  refine run_share [0] rfl ?_
  refine run_share [0] rfl ?_
  refine run_share [0] rfl ?_
  refine run_share [0] rfl ?_
  refine run_share [0] rfl ?_
  refine run_share [0] rfl ?_
  refine run_nameSh ?_
  intro sh hsh
  have e0 : ∀ e : PE, e.args = [] → e.or = [] → RdE w0 sh e (peC e.kind e.num e.name e.meth (.slice none 0 0) (.slice none 0 0)) := fun e h1 h2 => RdE.of (by rw [h1]; exact RdEl.nil0) (by rw [h2]; exact RdEl.nil0)
  have l12 : RdEl w0 sh (.slice (some ⟨s12, 0, none⟩) 1 1) [awGet] := RdEl.one (e0 awGet rfl rfl) rfl (by rw [hsh]; repeat (first | exact List.Mem.head _ | refine List.Mem.tail _ ?_))
  have l16 : RdEl w0 sh (.slice (some ⟨s16, 0, none⟩) 1 1) [awOne] := RdEl.one (e0 awOne rfl rfl) rfl (by rw [hsh]; repeat (first | exact List.Mem.head _ | refine List.Mem.tail _ ?_))
  have l20 : RdEl w0 sh (.slice (some ⟨s20a, 0, none⟩) 1 1) [awK] := RdEl.one (e0 awK rfl rfl) rfl (by rw [hsh]; repeat (first | exact List.Mem.head _ | refine List.Mem.tail _ ?_))
  have l22 : RdEl w0 sh (.slice (some ⟨s20, 0, none⟩) 1 1) awHost.expr.args := RdEl.one (e := .mk 7 0 (bs [100, 111, 117, 98, 108, 101]) (bs []) [awK] []) (RdE.of l20 RdEl.nil0) rfl (by rw [hsh]; repeat (first | exact List.Mem.head _ | refine List.Mem.tail _ ?_))
  have l31 : RdEl w0 sh (.slice (some ⟨s31, 0, none⟩) 2 2) [awK, awZ] := RdEl.two (e0 awK rfl rfl) rfl (e0 awZ rfl rfl) rfl (by rw [hsh]; repeat (first | exact List.Mem.head _ | refine List.Mem.tail _ ?_))
  have l34 : RdSt w0 sh (.slice (some ⟨s34, 0, none⟩) 1 1) [awPush] := RdSt.one (RdS.of (s := awPush) l12 RdEl.nil0 RdSt.nil0 RdSt.nil0) rfl (by rw [hsh]; repeat (first | exact List.Mem.head _ | refine List.Mem.tail _ ?_))
  have l36 : RdSt w0 sh (.slice (some ⟨s36, 0, none⟩) 1 1) [awAdd] := RdSt.one (RdS.of (s := awAdd) l16 RdEl.nil0 RdSt.nil0 RdSt.nil0) rfl (by rw [hsh]; repeat (first | exact List.Mem.head _ | refine List.Mem.tail _ ?_))
  have l39 : RdSt w0 sh (.slice (some ⟨s39, 0, none⟩) 1 1) [awHost] := RdSt.one (RdS.of (s := awHost) l22 RdEl.nil0 RdSt.nil0 RdSt.nil0) rfl (by rw [hsh]; repeat (first | exact List.Mem.head _ | refine List.Mem.tail _ ?_))
  have l41 : RdSt w0 sh (.slice (some ⟨s41, 0, none⟩) 2 2) [awIf, awRep] := RdSt.two (RdS.of (s := awIf) l31 RdEl.nil0 l34 l36) rfl (RdS.of (s := awRep) RdEl.nil0 RdEl.nil0 l39 RdSt.nil0) rfl (by rw [hsh]; repeat (first | exact List.Mem.head _ | refine List.Mem.tail _ ?_))
  have l28 : RdSl w0 sh encY 1 (.slice (some ⟨s28, 0, none⟩) 1 1) awO.params := RdSl.flat (encE := encY) (q := 1) (w0 := w0) (b := s28) (l := awO.params) (fun _ _ => rfl) (by rw [hsh]; repeat (first | exact List.Mem.head _ | refine List.Mem.tail _ ?_))
  have l43 : RdOl w0 sh (.slice (some ⟨s43, 0, none⟩) 1 1) [awO] := RdOl.one (o := awO) ⟨_, _, rfl, l28, l41⟩ rfl (by rw [hsh]; repeat (first | exact List.Mem.head _ | refine List.Mem.tail _ ?_))
  have l27 : RdSl w0 sh encD 2 (.slice (some ⟨s27, 0, none⟩) 2 2) awP.stores := RdSl.flat (encE := encD) (q := 2) (w0 := w0) (b := s27) (l := awP.stores) (fun _ _ => rfl) (by rw [hsh]; repeat (first | exact List.Mem.head _ | refine List.Mem.tail _ ?_))
  have hP : RdP w0 sh (.agg #[.slice (some ⟨s27, 0, none⟩) 2 2, .slice (some ⟨s43, 0, none⟩) 1 1]) awP := ⟨_, _, rfl, l27, l43⟩
  have hof := of_spec w0 hk sh _ awP (bs [102]) hP ⟨by decide, by decide, fun o ho => by rw [List.mem_singleton.1 ho]; decide +kernel⟩ (fun o ho => by rw [List.mem_singleton.1 ho]; decide +kernel)
  rw [awP_of] at hof
  have h6 : (t6, Obj.cells (List.toArray [Value.slice (some ⟨s27, 0, none⟩) 2 2, Value.slice (some ⟨s43, 0, none⟩) 1 1]) 25 (0, 0)) ∈ sh := (by rw [hsh]; repeat (first | exact List.Mem.head _ | refine List.Mem.tail _ ?_))
  have h6m : ∀ hF Γ w, Sh sh hF → St w0 hF Γ w → w.heap[t6]? = some (.cells (List.toArray [Value.slice (some ⟨s27, 0, none⟩) 2 2, Value.slice (some ⟨s43, 0, none⟩) 1 1]) 25 (0, 0)) := fun hF Γ w h1 h2 => (h2.frame (h1 _ h6)).2
  clear l12 l16 l20 l22 l31 l34 l36 l39 l41 l28 l43 l27 e0 hP h6 hsh
  repeat (first | refine zck ?_ | refine zcl ?_ | refine zcm ?_ | refine zcn ?_)
  first | refine zcp (by kernel_rfl) ?_ | refine zcq PP_mixed (by kernel_rfl) (by kernel_rfl) ?_
  repeat' (refine zap rfl ?_; first | refine zad rfl h6m rfl ?_ | refine zan rfl ?_ | refine zan rfl ?_ | (refine zai [] hof rfl rfl rfl (fun _ h => h) ?_; rintro v Γ ⟨q, rfl, rfl⟩) | refine zan rfl ?_ | refine zae 1 rfl rfl rfl rfl rfl rfl rfl ?_ | refine zar (fun nb => ?_))
  all_goals refine zch ?_
  all_goals repeat (first | refine zck ?_ | refine zcl ?_ | refine zcm ?_ | refine zcn ?_)
  refine run_share [1] rfl ?_
  refine run_shareB [0] rfl (fun bl hb => ?_)
  have hs := fun (s1 s2 s3 : Nat) => (same_spec w0 ((s3, Obj.cells (List.toArray (awE.hosts.flatMap encY)) 9 (0, 0)) :: (s2, Obj.cells (List.toArray (awE.writes.flatMap encY)) 9 (0, 0)) :: (s1, Obj.cells (List.toArray (awE.reads.flatMap encY)) 9 (0, 0)) :: bl) (efV q awE) (efV ((some ⟨s1, 0, none⟩, 2), (some ⟨s2, 0, none⟩, 2), (some ⟨s3, 0, none⟩, 1)) awE) awE awE
    (hb.mono fun p hp => by simp [hp]) ⟨_, rfl, _, _, _, rfl, RdSl.flat (encE := encY) (q := 1) (w0 := w0) (b := s1) (l := awE.reads) (fun _ _ => rfl) (.tail _ (.tail _ (.head _))), RdSl.flat (encE := encY) (q := 1) (w0 := w0) (b := s2) (l := awE.writes) (fun _ _ => rfl) (.tail _ (.head _)), RdSl.flat (encE := encY) (q := 1) (w0 := w0) (b := s3) (l := awE.hosts) (fun _ _ => rfl) (.head _)⟩
    ⟨by decide, by decide, by decide⟩ ⟨by decide, by decide, by decide⟩).owned.owned.owned
  rw [sameE_self] at hs
  repeat' (first | refine zcp (by kernel_rfl) ?_ | (refine zap rfl ?_; first | refine reg_buildSlice rfl rfl rfl rfl rfl rfl (fun s55 => ?_) | refine zaj rfl ?_ | refine zan rfl ?_ | refine zan rfl ?_ | refine zaa 0 rfl rfl rfl ?_ | refine zah [] (ofE_spec w0 q awE) rfl rfl rfl sub_nil rfl ?_ | (refine zai [0, 0, 0] (hs _ _ _) rfl rfl rfl (fun p hp => by simp [hp]) ?_; rintro v Γ ⟨_, ⟨_, ⟨_, ⟨rfl, rfl⟩, rfl⟩, rfl⟩, rfl⟩) | refine zbc rfl rfl (by omega) ?_ | refine zbu rfl ?_ | refine zcb rfl ?_) | refine zch ?_)
  refine run_take [] rfl ?_
  exact ret_tmp1 rfl ⟨rfl, rfl⟩
end Go.Proofs.YtagmagnkigjggaaGreatDoor

namespace Go.Proofs.YtagmagnkigjggaaGreatDoor
open Go.Vc Sim
end Go.Proofs.YtagmagnkigjggaaGreatDoor

namespace Go.Proofs.YtagmagnkigjggaaGreatDoor
open Go.Vc Sim Go.ChangeShapes Go.WideShapes Go.RowKit
set_option maxRecDepth 100000
theorem cOwn : ownKnob Tryz.prog.godebug = none := by kernel_rfl
theorem cLaid : laidOutB Tryz.prog = true := by kernel_rfl
def nKw : String := Rows.effectsOfRow.named.headD ""
def nPw : String := Rows.effectsOfRow.named.getD 1 ""
def lKw : List (String × DataW Unit) := [(nKw, Rows.laid_simulcast_lexer_keywords), (nPw, Rows.laid_simulcast_array_powers)]
theorem gKw : Tryz.prog.globalNamed nKw = some 0 := by kernel_rfl
theorem tKw : (Tryz.prog.globals[0]?).map (·.type) = some 126 := by kernel_rfl
def strData (l : List ByteArray) : DataW Unit := .agg (l.map fun s => .lit (.string s.data.toList))
theorem laid_eq : (Rows.laid_simulcast_lexer_keywords : DataW Unit) = strData kwL := rfl
theorem cells_of_strs {H : Type} {enc : TypeId × Value → H} {P : Program} {w : World} {base : Nat} {sp : Nat → Bool} {held : Bool} {fuel : Nat} {t e : TypeId} {n : Nat} {cs : List Value} {l : List ByteArray} {x : DataW H × List MemPlace}
    (ht : P.underlying t = some (.array n e)) (he : P.underlying e = some .string) (hce : P.cellsOf e = 1) (hct : P.cellsOf t = n) (hx : x.1 = .agg (l.map fun s => .lit (.string s.data.toList)))
    (h : DataW.trod enc P w base sp held fuel t cs = some x) : cs = l.flatMap encY := by
  obtain ⟨xs, m, _, rfl, hl, hxl, hf⟩ := DataW.trod_array ht h
  have hxs : xs.map (·.1) = l.map fun s => (DataW.lit (.string s.data.toList) : DataW H) := by simpa using hx
  rw [hct] at hl
  have hll : l.length = n := by
    have := congrArg List.length hxs
    simp at this
    omega
  have hfl : l.flatMap encY = l.map fun s => Value.string s := by
    clear hx hxs hll
    induction l with
    | nil => rfl
    | cons a l ih => rw [List.flatMap_cons, ih]; rfl
  rw [hfl]
  apply List.ext_getElem?
  intro i
  by_cases hi : i < n
  · have h1 := hf i hi
    rw [hce] at h1
    have h2 : xs[i]? = some xs[i] := List.getElem?_eq_getElem (by omega)
    rw [h2] at h1
    obtain ⟨s, hc, hz, _⟩ := DataW.trod_string he h1
    have h3 : cs[i]? = some (.string s) := by
      have := congrArg (·[0]?) hc
      simpa [List.getElem?_take, List.getElem?_drop] using this
    have h4 : (xs.map (·.1))[i]? = some (DataW.lit (.string s.data.toList) : DataW H) := by simp [h2, hz]
    rw [hxs] at h4
    simp only [List.getElem?_map, Option.map_eq_some_iff, DataW.lit.injEq, Lit.string.injEq] at h4
    obtain ⟨s', hs', he'⟩ := h4
    have : s' = s := WideShapes.bytes_inj he'
    subst this
    simp [h3, hs']
  · rw [List.getElem?_eq_none (by omega), List.getElem?_eq_none (by simp; omega)]
theorem kw_ok {W : World} (h : laidMetH Tryz.prog lKw W) : KwOk W := by
  rw [MakeChecks.laidMetH_plain _ _ _ (by kernel_rfl), lKw, laid_eq] at h
  obtain ⟨ps, ⟨g', t', cs, fuel, p, q, hg', ht', hvar, hd, _, _⟩, _⟩ := h
  obtain rfl := Option.some.inj (gKw.symm.trans hg')
  obtain rfl := Option.some.inj (tKw.symm.trans ht')
  have hcs := cells_of_strs (l := kwL) Tryz.underlying126 Tryz.underlying9 (by kernel_rfl) (by kernel_rfl) rfl hd
  unfold World.var? at hvar
  rw [gKw] at hvar
  simp only [Option.bind_some] at hvar
  split at hvar
  · rename_i c T fr hc
    cases hvar
    exact ⟨T, fr, by rw [hc, kwCells, ← hcs]⟩
  · cases hvar
theorem door_met (os : Os) (args : Array Value) : laidMetH Tryz.prog lKw ((World.doorLaid Tryz.prog 400 os).forCall (fun _ _ => 0) ⟨#[], args, []⟩).memory :=
  laidMetH_of_parts3 (fuel := 8) (laidMet_of_run' 8 (by kernel_rfl) (by kernel_rfl)) (by kernel_rfl) (by kernel_rfl)
theorem calls_of {f : FuncId} {args : List Value} {W : World} (h : FnE PP W [] f args [] (.bool true) []) : Calls Tryz.prog f args.toArray W fun e W' => e = .returned (.bool true) ∧ Below W.heap.size W W' := by
  have := h.calls Heap.emp W (fun p hp => by cases hp) (st_start W)
  rw [PP_def] at this
  exact this.mono fun e W' ⟨v, Γ', he, ⟨hv, hΓ⟩, hst⟩ => ⟨by rw [he, hv], below_of_good hst.good⟩
end Go.Proofs.YtagmagnkigjggaaGreatDoor

namespace Sim
open Go Go.Vc
def Ef.nm (e : Ef) : Prop := joinE e zeroE = e
theorem joinE_nm (a b : Ef) : (joinE a b).nm := by
  unfold Ef.nm joinE zeroE
  have h := sumC_range a.calls b.calls
  simp only [normN_nil, sumC_zero]
  rw [normN_id (normN_str _), normN_id (normN_str _), normN_id (normN_str _), bndC_id h.1 h.2]
theorem zeroE_nm : zeroE.nm := by unfold Ef.nm; rfl
theorem zero_joinE {e : Ef} (h : e.nm) : joinE zeroE e = e := by rw [joinE_comm]; exact h
theorem timesE_nm (e : Ef) (n : Int) : (timesE e n).nm := by
  unfold timesE
  split
  · exact zeroE_nm
  · rename_i hn
    have h := sumC_range e.calls 0
    have hc : (joinE e zeroE).calls = sumC e.calls 0 := rfl
    have hr : 0 ≤ (if mostC / n < (joinE e zeroE).calls then mostC else (joinE e zeroE).calls * n) ∧ (if mostC / n < (joinE e zeroE).calls then mostC else (joinE e zeroE).calls * n) ≤ mostC := by
      rw [hc]
      split
      · unfold mostC; omega
      · rename_i h2
        have h3 : sumC e.calls 0 * n ≤ mostC / n * n := Int.mul_le_mul_of_nonneg_right (by omega) (by omega)
        have h4 : mostC / n * n ≤ mostC := Int.ediv_mul_le _ (by omega)
        exact ⟨Int.mul_nonneg h.1 (by omega), by omega⟩
    have h1 := joinE_nm e zeroE
    unfold Ef.nm at h1 ⊢
    obtain ⟨c, hc2⟩ : ∃ c, c = (if mostC / n < (joinE e zeroE).calls then mostC else (joinE e zeroE).calls * n) := ⟨_, rfl⟩
    rw [← hc2] at hr ⊢
    unfold joinE zeroE at h1 ⊢
    simp only [Ef.mk.injEq, sumC_zero] at h1 ⊢
    exact ⟨h1.1, h1.2.1, h1.2.2.1, bndC_id hr.1 hr.2⟩
theorem wrongS_mk (k : Int) (n : ByteArray) (a : Int) (b : PE) (xs ys : List PS) (d : Int) : wrongS (.mk k n a b xs ys) d = if wrongS0 (.mk k n a b xs ys) d ≠ 0 then wrongS0 (.mk k n a b xs ys) d else if wrongSs xs (d + 1) ≠ 0 then wrongSs xs (d + 1) else wrongSs ys (d + 1) := by rw [wrongS]
def PO.put (o : PO) (b : List PS) : PO := ⟨o.name, o.params, b⟩
end Sim

namespace Sim
open Go Go.Vc
def Ef.ok (e : Ef) : Prop := (∀ x ∈ e.writes, x ∈ e.reads) ∧ 0 ≤ e.calls ∧ (e.reads ≠ [] → 1 ≤ e.calls)
def Ef.le (a b : Ef) : Prop := (∀ x ∈ a.reads, x ∈ b.reads) ∧ (∀ x ∈ a.writes, x ∈ b.writes) ∧ (∀ x ∈ a.hosts, x ∈ b.hosts) ∧ a.calls ≤ b.calls
theorem Ef.le.trans {a b c : Ef} (h : a.le b) (g : b.le c) : a.le c := ⟨fun x hx => g.1 x (h.1 x hx), fun x hx => g.2.1 x (h.2.1 x hx), fun x hx => g.2.2.1 x (h.2.2.1 x hx), Int.le_trans h.2.2.2 g.2.2.2⟩
theorem Ef.nm.calls {a : Ef} (h : a.nm) : 0 ≤ a.calls ∧ a.calls ≤ mostC := by
  unfold Ef.nm at h
  rw [← h]
  exact sumC_range _ _
theorem nodeW_err {ks : List (ByteArray × ByteArray)} {k w : Int} {a b : ByteArray} (h : w ≠ 0) : nodeW ks k a b w = w := by
  unfold nodeW
  split
  · unfold callW; rw [if_pos h]
  · rfl
mutual
theorem exprE_err (ks : List (ByteArray × ByteArray)) : ∀ (e : PE) (w : Int), w ≠ 0 → (exprE ks e w).2 = w
  | .mk k num a b xs ys, w, h => by
    rw [exprE]
    have h1 := exprEs_err ks xs zeroE w h
    have h2 := exprEs_err ks ys (exprEs ks xs zeroE w).1 _ h
    show nodeW ks k a b (exprEs ks ys (exprEs ks xs zeroE w).1 (exprEs ks xs zeroE w).2).2 = w
    rw [h1, h2]
    exact nodeW_err h
theorem exprEs_err (ks : List (ByteArray × ByteArray)) : ∀ (l : List PE) (out : Ef) (w : Int), w ≠ 0 → (exprEs ks l out w).2 = w
  | [], out, w, h => by rw [exprEs]
  | e :: l, out, w, h => by rw [exprEs, exprE_err ks e w h]; exact exprEs_err ks l _ w h
end
mutual
theorem stmtE_err (ks : List (ByteArray × ByteArray)) : ∀ (s : PS) (w : Int), w ≠ 0 → (stmtE ks s w).2 = w
  | .mk k a num e body els, w, h => by
    rw [stmtE]
    show (stmtEs ks els zeroE (stmtEs ks body zeroE (exprE ks e w).2).2).2 = w
    rw [exprE_err ks e w h, stmtEs_err ks body _ w h, stmtEs_err ks els _ w h]
theorem stmtEs_err (ks : List (ByteArray × ByteArray)) : ∀ (l : List PS) (out : Ef) (w : Int), w ≠ 0 → (stmtEs ks l out w).2 = w
  | [], out, w, h => by rw [stmtEs]
  | e :: l, out, w, h => by rw [stmtEs, stmtE_err ks e w h]; exact stmtEs_err ks l _ w h
end
end Sim

namespace Sim
open Go Go.Vc
abbrev MR := ByteArray × ByteArray × Bool
def scanM (k m : ByteArray) : List MR → Bool → Option Bool × Bool
  | [], known => (none, known)
  | x :: l, known => if x.1 ≠ k then scanM k m l known else if x.2.1 = m then (some x.2.2, true) else scanM k m l true
def grpM (nm : ByteArray) (ms : List (ByteArray × Int × Bool)) : List MR := ms.map fun r => (nm, r.1, r.2.2)
theorem scanM_skip {k m nm : ByteArray} (h : nm ≠ k) : ∀ (ms : List (ByteArray × Int × Bool)) (l : List MR) (known : Bool), scanM k m (grpM nm ms ++ l) known = scanM k m l known
  | [], l, known => rfl
  | r :: ms, l, known => by
    show scanM k m ((nm, r.1, r.2.2) :: (grpM nm ms ++ l)) known = _
    rw [scanM, if_pos h, scanM_skip h ms l known]
theorem scanM_here {k m : ByteArray} : ∀ (ms : List (ByteArray × Int × Bool)) (l : List MR) (known : Bool), scanM k m (grpM k ms ++ l) known = match ms.find? (fun r => decide (r.1 = m)) with | some r => (some r.2.2, true) | none => scanM k m l (known || !ms.isEmpty)
  | [], l, known => by simp [grpM]
  | r :: ms, l, known => by
    show scanM k m ((k, r.1, r.2.2) :: (grpM k ms ++ l)) known = _
    rw [scanM, if_neg (by simp)]
    by_cases h : r.1 = m
    · rw [if_pos h, List.find?_cons_of_pos (by simpa using h)]
    · rw [if_neg h, List.find?_cons_of_neg (by simpa using h), scanM_here ms l true]
      simp
def allM : List (ByteArray × List (ByteArray × Int × Bool)) → List MR
  | [] => []
  | g :: gs => grpM g.1 g.2 ++ allM gs
theorem allM_none {k m : ByteArray} : ∀ (gs : List (ByteArray × List (ByteArray × Int × Bool))) (known : Bool), (∀ g ∈ gs, g.1 ≠ k) → scanM k m (allM gs) known = (none, known)
  | [], known, _ => rfl
  | g :: gs, known, h => by
    rw [allM, scanM_skip (h g (.head _)), allM_none gs known fun x hx => h x (.tail _ hx)]
def lookG : List (ByteArray × List (ByteArray × Int × Bool)) → ByteArray → Option (List (ByteArray × Int × Bool))
  | [], _ => none
  | g :: gs, k => if g.1 = k then some g.2 else lookG gs k
theorem allM_scan {k m : ByteArray} : ∀ (gs : List (ByteArray × List (ByteArray × Int × Bool))), (gs.map (·.1)).Nodup → (∀ g ∈ gs, g.2.isEmpty = false) →
    scanM k m (allM gs) false = match lookG gs k with | none => (none, false) | some ms => match ms.find? (fun r => decide (r.1 = m)) with | some r => (some r.2.2, true) | none => (none, true)
  | [], _, _ => rfl
  | g :: gs, hn, he => by
    rw [List.map_cons, List.nodup_cons] at hn
    rw [allM, lookG]
    by_cases h : g.1 = k
    · subst h
      rw [if_pos rfl, scanM_here]
      dsimp only
      cases g.2.find? (fun r => decide (r.1 = m)) with
      | some r => rfl
      | none =>
        dsimp only
        rw [he g (.head _), allM_none gs _ fun x hx hq => hn.1 (by rw [← hq]; exact List.mem_map_of_mem hx)]
        rfl
    · rw [if_neg h, scanM_skip h, allM_scan gs hn.2 fun x hx => he x (.tail _ hx)]
def refCall (st : List (ByteArray × ByteArray)) (ml : List MR) (name meth : ByteArray) (out : Ef) : Ef × Int :=
  match lookK st name with
  | none => (zeroE, 16)
  | some k => match scanM k meth ml false with
    | (some wr, _) => (joinE out ⟨[name], if wr = true then [name] else [], [], 1⟩, 0)
    | (none, known) => if known = false then (zeroE, 2) else (zeroE, 14)
mutual
def refE (st : List (ByteArray × ByteArray)) (ml : List MR) : PE → Ef × Int
  | .mk k _ name meth xs ys =>
    if (refEs st ml xs zeroE).2 ≠ 0 then (zeroE, (refEs st ml xs zeroE).2) else
    if (refEs st ml ys (refEs st ml xs zeroE).1).2 ≠ 0 then (zeroE, (refEs st ml ys (refEs st ml xs zeroE).1).2) else
    if k = 7 then (joinE (refEs st ml ys (refEs st ml xs zeroE).1).1 ⟨[], [], [name], 0⟩, 0) else
    if k ≠ 6 then ((refEs st ml ys (refEs st ml xs zeroE).1).1, 0) else refCall st ml name meth (refEs st ml ys (refEs st ml xs zeroE).1).1
def refEs (st : List (ByteArray × ByteArray)) (ml : List MR) : List PE → Ef → Ef × Int
  | [], out => (out, 0)
  | e :: l, out => if (refE st ml e).2 ≠ 0 then (zeroE, (refE st ml e).2) else refEs st ml l (joinE out (refE st ml e).1)
end
def MlOk (ml : List MR) : Prop := ∀ k m, scanM k m ml false = match ctKind k with | none => (none, false) | some i => match ctFind (i : Nat) m with | some r => (some r.2.2, true) | none => (none, true)
theorem refCall_own {st : List (ByteArray × ByteArray)} {ml : List MR} (hM : MlOk ml) (name meth : ByteArray) (out : Ef) :
    refCall st ml name meth out = if callW st name meth 0 ≠ 0 then (zeroE, callW st name meth 0) else (joinE out (callE st name meth), 0) := by
  unfold refCall callW callE writesK nameK kindZ
  cases h1 : lookK st name with
  | none => simp
  | some k =>
    simp only [Option.getD_some, Option.isSome_some]
    rw [hM]
    obtain h2 | ⟨i, h2⟩ : ctKind k = none ∨ ∃ i, ctKind k = some i := by cases ctKind k <;> simp
    · simp [h2]
    · obtain h3 | ⟨r, h3⟩ : ctFind (i : Nat) meth = none ∨ ∃ r, ctFind (i : Nat) meth = some r := by cases ctFind (i : Nat) meth <;> simp
      · simp [h2, h3]
      · simp [h2, h3]
theorem refE_mk (st : List (ByteArray × ByteArray)) (ml : List MR) (k n : Int) (name meth : ByteArray) (xs ys : List PE) : refE st ml (.mk k n name meth xs ys) =
    if (refEs st ml xs zeroE).2 ≠ 0 then (zeroE, (refEs st ml xs zeroE).2) else
    if (refEs st ml ys (refEs st ml xs zeroE).1).2 ≠ 0 then (zeroE, (refEs st ml ys (refEs st ml xs zeroE).1).2) else
    if k = 7 then (joinE (refEs st ml ys (refEs st ml xs zeroE).1).1 ⟨[], [], [name], 0⟩, 0) else
    if k ≠ 6 then ((refEs st ml ys (refEs st ml xs zeroE).1).1, 0) else refCall st ml name meth (refEs st ml ys (refEs st ml xs zeroE).1).1 := by rw [refE]
theorem exprE_mk (ks : List (ByteArray × ByteArray)) (k n : Int) (name meth : ByteArray) (xs ys : List PE) (w : Int) : exprE ks (.mk k n name meth xs ys) w =
    (nodeE ks k name meth (exprEs ks ys (exprEs ks xs zeroE w).1 (exprEs ks xs zeroE w).2).1, nodeW ks k name meth (exprEs ks ys (exprEs ks xs zeroE w).1 (exprEs ks xs zeroE w).2).2) := by rw [exprE]
def ansE (r : Ef × Int) : Ef × Int := if r.2 ≠ 0 then (zeroE, r.2) else (r.1, 0)
theorem ansE_ok {r : Ef × Int} (h : r.2 = 0) : ansE r = (r.1, 0) := by unfold ansE; rw [if_neg (by omega)]
theorem ansE_err {r : Ef × Int} (h : r.2 ≠ 0) : ansE r = (zeroE, r.2) := by unfold ansE; rw [if_pos h]
theorem ansE_err2 (a : Ef) {w : Int} (h : w ≠ 0) : ansE (a, w) = (zeroE, w) := ansE_err (r := (a, w)) h
mutual
theorem refE_own {st : List (ByteArray × ByteArray)} {ml : List MR} (hM : MlOk ml) : ∀ (e : PE), refE st ml e = ansE (exprE st e 0)
  | .mk k n name meth xs ys => by
    rw [refE_mk, exprE_mk, refEs_own hM xs zeroE]
    by_cases h1 : (exprEs st xs zeroE 0).2 = 0
    · rw [ansE_ok h1, h1]
      dsimp only
      rw [refEs_own hM ys]
      by_cases h2 : (exprEs st ys (exprEs st xs zeroE 0).1 0).2 = 0
      · rw [ansE_ok h2, h2]
        dsimp only
        rw [if_neg (by omega), if_neg (by omega)]
        unfold nodeE nodeW
        by_cases h7 : k = 7
        · subst h7
          rw [if_pos rfl, if_neg (by omega), if_pos rfl, if_neg (by omega)]
          rfl
        · rw [if_neg h7]
          by_cases h6 : k = 6
          · subst h6
            rw [if_neg (by omega), if_pos rfl, if_pos rfl, refCall_own hM]
            rfl
          · rw [if_pos h6, if_neg h6, if_neg h7, if_neg h6]
            rfl
      · rw [ansE_err h2]
        dsimp only
        rw [if_neg (by omega), if_pos h2, nodeW_err h2]
        exact (ansE_err2 _ h2).symm
    · rw [ansE_err h1, exprEs_err st ys _ _ h1, nodeW_err h1]
      dsimp only
      rw [if_pos h1]
      exact (ansE_err2 _ h1).symm
theorem refEs_own {st : List (ByteArray × ByteArray)} {ml : List MR} (hM : MlOk ml) : ∀ (l : List PE) (out : Ef), refEs st ml l out = ansE (exprEs st l out 0)
  | [], out => by rw [refEs, exprEs]; rfl
  | e :: l, out => by
    rw [refEs, exprEs, refE_own hM e]
    by_cases h : (exprE st e 0).2 = 0
    · rw [ansE_ok h, h]
      dsimp only
      rw [if_neg (by omega)]
      exact refEs_own hM l _
    · rw [ansE_err h]
      dsimp only
      rw [if_pos h]
      have h2 := exprEs_err st l (joinE out (exprE st e 0).1) _ h
      rw [ansE_err (by rw [h2]; exact h), h2]
end

mutual
def refS (st : List (ByteArray × ByteArray)) (ml : List MR) : PS → Ef × Int
  | .mk k _ num e xs ys =>
    if (if hasEx k = true then refE st ml e else (zeroE, 0)).2 ≠ 0 then (zeroE, (if hasEx k = true then refE st ml e else (zeroE, 0)).2) else
    if (refSs st ml xs zeroE).2 ≠ 0 then (zeroE, (refSs st ml xs zeroE).2) else
    if (refSs st ml ys zeroE).2 ≠ 0 then (zeroE, (refSs st ml ys zeroE).2) else
    ((if k = 3 then { joinE (refSs st ml xs zeroE).1 (refSs st ml ys zeroE).1 with calls := maxC (refSs st ml xs zeroE).1.calls (refSs st ml ys zeroE).1.calls } else if k = 4 then timesE (refSs st ml xs zeroE).1 num else (refSs st ml xs zeroE).1), 0)
def refSs (st : List (ByteArray × ByteArray)) (ml : List MR) : List PS → Ef → Ef × Int
  | [], out => (out, 0)
  | .mk k a num e xs ys :: l, out =>
    if (refS st ml (.mk k a num e xs ys)).2 ≠ 0 then (zeroE, (refS st ml (.mk k a num e xs ys)).2) else
    refSs st ml l (joinE (joinE out (if hasEx k = true then refE st ml e else (zeroE, 0)).1) (refS st ml (.mk k a num e xs ys)).1)
end
theorem refS_mk (st : List (ByteArray × ByteArray)) (ml : List MR) (k : Int) (a : ByteArray) (num : Int) (e : PE) (xs ys : List PS) : refS st ml (.mk k a num e xs ys) =
    if (if hasEx k = true then refE st ml e else (zeroE, 0)).2 ≠ 0 then (zeroE, (if hasEx k = true then refE st ml e else (zeroE, 0)).2) else
    if (refSs st ml xs zeroE).2 ≠ 0 then (zeroE, (refSs st ml xs zeroE).2) else
    if (refSs st ml ys zeroE).2 ≠ 0 then (zeroE, (refSs st ml ys zeroE).2) else
    ((if k = 3 then { joinE (refSs st ml xs zeroE).1 (refSs st ml ys zeroE).1 with calls := maxC (refSs st ml xs zeroE).1.calls (refSs st ml ys zeroE).1.calls } else if k = 4 then timesE (refSs st ml xs zeroE).1 num else (refSs st ml xs zeroE).1), 0) := by rw [refS]
theorem stmtE_mk (ks : List (ByteArray × ByteArray)) (k : Int) (a : ByteArray) (num : Int) (e : PE) (body els : List PS) (w : Int) : stmtE ks (.mk k a num e body els) w =
    (partE k num (exprE ks e w).1 (stmtEs ks body zeroE (exprE ks e w).2).1 (stmtEs ks els zeroE (stmtEs ks body zeroE (exprE ks e w).2).2).1, (stmtEs ks els zeroE (stmtEs ks body zeroE (exprE ks e w).2).2).2) := by rw [stmtE]
theorem exprE_empty {ks : List (ByteArray × ByteArray)} : ∀ {e : PE} (w : Int), emptyE e = true → exprE ks e w = (zeroE, w)
  | .mk k n a b xs ys, w, h => by
    unfold emptyE at h
    simp only [PE.kind, PE.args, PE.or, Bool.and_eq_true, decide_eq_true_eq, List.length_eq_zero_iff] at h
    obtain ⟨⟨⟨⟨⟨hk, _⟩, _⟩, _⟩, rfl⟩, rfl⟩ := h
    have hk : k = 0 := of_decide_eq_true hk
    subst hk
    rw [exprE_mk, exprEs, exprEs]
    rfl
theorem formS_parts {k : Int} {a : ByteArray} {num : Int} {e : PE} {xs ys : List PS} (h : formS (.mk k a num e xs ys) = true) : (hasEx k = false → emptyE e = true) ∧ (k ≠ 3 → ys = []) ∧ (k ≠ 3 → k ≠ 4 → xs = []) := by
  rw [formS_N] at h
  unfold formSN at h
  split at h
  · cases h
  · rename_i h1
    split at h
    · cases h
    · rename_i h2
      simp only [Bool.or_eq_true, Bool.and_eq_true, decide_eq_true_eq, Bool.not_eq_true', not_or, not_and] at h1 h2
      refine ⟨fun hx => by simpa using h1.2 hx, fun h3 => ?_, fun h3 h4 => ?_⟩
      · have := h2.1 h3
        exact List.length_eq_zero_iff.1 (by omega)
      · have := h2.2 ⟨h3, h4⟩
        exact List.length_eq_zero_iff.1 (by omega)
mutual
theorem refS_own {st : List (ByteArray × ByteArray)} {ml : List MR} (hM : MlOk ml) : ∀ (s : PS) (d : Int), wrongS s d = 0 →
    (refS st ml s).2 = (stmtE st s 0).2 ∧ ((stmtE st s 0).2 = 0 → joinE (if hasEx s.kind = true then refE st ml s.expr else (zeroE, 0)).1 (refS st ml s).1 = (stmtE st s 0).1)
  | .mk k a num e xs ys, d, h => by
    rw [wrongS_mk] at h
    by_cases h0 : wrongS0 (.mk k a num e xs ys) d = 0
    rotate_left
    · rw [if_pos h0] at h; exact absurd h h0
    rw [if_neg (by omega)] at h
    by_cases h1 : wrongSs xs (d + 1) = 0
    rotate_left
    · rw [if_pos h1] at h; exact absurd h h1
    rw [if_neg (by omega)] at h
    have i1 := refSs_own (st := st) hM xs (d + 1) h1 zeroE
    have i2 := refSs_own (st := st) hM ys (d + 1) h zeroE
    have hform : formS (.mk k a num e xs ys) = true := by
      unfold wrongS0 at h0
      split at h0
      · omega
      · split at h0
        · omega
        · split at h0
          · omega
          · rename_i hq; simpa using hq
    obtain ⟨f1, f2, f3⟩ := formS_parts hform
    have hX : (if hasEx k = true then refE st ml e else (zeroE, 0)) = ansE (exprE st e 0) := by
      by_cases hx : hasEx k = true
      · rw [if_pos hx, refE_own hM]
      · rw [if_neg hx, exprE_empty 0 (f1 (by simpa using hx))]; rfl
    show (refS st ml (.mk k a num e xs ys)).2 = (stmtE st (.mk k a num e xs ys) 0).2 ∧ ((stmtE st (.mk k a num e xs ys) 0).2 = 0 → joinE (if hasEx k = true then refE st ml e else (zeroE, 0)).1 (refS st ml (.mk k a num e xs ys)).1 = (stmtE st (.mk k a num e xs ys) 0).1)
    rw [refS_mk, stmtE_mk, hX, i1, i2]
    by_cases c0 : (exprE st e 0).2 = 0
    rotate_left
    · rw [ansE_err c0]
      dsimp only
      rw [if_pos c0, stmtEs_err st xs _ _ c0, stmtEs_err st ys _ _ c0]
      exact ⟨rfl, fun hq => absurd hq c0⟩
    rw [ansE_ok c0, c0]
    dsimp only
    by_cases c1 : (stmtEs st xs zeroE 0).2 = 0
    rotate_left
    · rw [ansE_err c1]
      dsimp only
      rw [if_neg (by omega), if_pos c1, stmtEs_err st ys _ _ c1]
      exact ⟨rfl, fun hq => absurd hq c1⟩
    rw [ansE_ok c1, c1]
    dsimp only
    by_cases c2 : (stmtEs st ys zeroE 0).2 = 0
    rotate_left
    · rw [ansE_err c2]
      dsimp only
      rw [if_neg (by omega), if_neg (by omega), if_pos c2]
      exact ⟨rfl, fun hq => absurd hq c2⟩
    rw [ansE_ok c2, c2]
    dsimp only
    rw [if_neg (by omega), if_neg (by omega), if_neg (by omega)]
    refine ⟨rfl, fun _ => ?_⟩
    unfold partE
    dsimp only
    by_cases k3 : k = 3
    · subst k3
      rw [if_pos rfl, if_neg (by omega)]
    · rw [if_neg k3]
      by_cases k4 : k = 4
      · subst k4
        rw [if_pos rfl, if_pos rfl, exprE_empty 0 (f1 rfl)]
        exact zero_joinE (timesE_nm _ _)
      · rw [if_neg k4, if_neg k4, f3 k3 k4, f2 k3]
        have e0 : ∀ w, stmtEs st [] zeroE w = (zeroE, w) := fun w => by rw [stmtEs]
        rw [e0]
        rfl
theorem refSs_own {st : List (ByteArray × ByteArray)} {ml : List MR} (hM : MlOk ml) : ∀ (l : List PS) (d : Int), wrongSs l d = 0 → ∀ (out : Ef), refSs st ml l out = ansE (stmtEs st l out 0)
  | [], _, _, out => by rw [refSs, stmtEs]; rfl
  | .mk k a num e xs ys :: l, d, h, out => by
    rw [wrongSs] at h
    by_cases h0 : wrongS (.mk k a num e xs ys) d = 0
    rotate_left
    · rw [if_pos h0] at h; exact absurd h h0
    rw [if_neg (by omega)] at h
    obtain ⟨g1, g2⟩ := refS_own (st := st) hM (.mk k a num e xs ys) d h0
    have ih := refSs_own (st := st) hM l d h
    rw [refSs, stmtEs, g1]
    by_cases c : (stmtE st (.mk k a num e xs ys) 0).2 = 0
    · rw [if_neg (by omega), ih, joinE_assoc, c]
      exact congrArg (fun z => ansE (stmtEs st l (joinE out z) 0)) (g2 c)
    · rw [if_pos c]
      have h2 := stmtEs_err st l (joinE out (stmtE st (.mk k a num e xs ys) 0).1) _ c
      rw [ansE_err (by rw [h2]; exact c), h2]
end
end Sim

namespace Sim
open Go Go.Vc
def ctG : List (ByteArray × List (ByteArray × Int × Bool)) := (List.range 10).map fun i => (ctNames.getD i (bs []), ctRows.getD i [])
def ctM : List MR := allM ctG
theorem ctG_nodup : (ctG.map (·.1)).Nodup := by decide +kernel
theorem ctG_full : ∀ g ∈ ctG, g.2.isEmpty = false := by decide +kernel
theorem ctM_ok : MlOk ctM := by
  intro k m
  rw [ctM, allM_scan ctG ctG_nodup ctG_full]
  have h : lookG ctG k = (ctKind k).map fun i => ctMeths (i : Nat) := by
    show lookG ctG k = Option.map _ (ixS ctNames k 0)
    have e : ctG = [(ctNames.getD 0 (bs []), ctRows.getD 0 []), (ctNames.getD 1 (bs []), ctRows.getD 1 []), (ctNames.getD 2 (bs []), ctRows.getD 2 []), (ctNames.getD 3 (bs []), ctRows.getD 3 []), (ctNames.getD 4 (bs []), ctRows.getD 4 []), (ctNames.getD 5 (bs []), ctRows.getD 5 []), (ctNames.getD 6 (bs []), ctRows.getD 6 []), (ctNames.getD 7 (bs []), ctRows.getD 7 []), (ctNames.getD 8 (bs []), ctRows.getD 8 []), (ctNames.getD 9 (bs []), ctRows.getD 9 [])] := rfl
    have e2 : ctNames = [ctNames.getD 0 (bs []), ctNames.getD 1 (bs []), ctNames.getD 2 (bs []), ctNames.getD 3 (bs []), ctNames.getD 4 (bs []), ctNames.getD 5 (bs []), ctNames.getD 6 (bs []), ctNames.getD 7 (bs []), ctNames.getD 8 (bs []), ctNames.getD 9 (bs [])] := rfl
    rw [e]
    conv => rhs; rw [e2]
    generalize ctNames.getD 0 (bs []) = n0
    generalize ctNames.getD 1 (bs []) = n1
    generalize ctNames.getD 2 (bs []) = n2
    generalize ctNames.getD 3 (bs []) = n3
    generalize ctNames.getD 4 (bs []) = n4
    generalize ctNames.getD 5 (bs []) = n5
    generalize ctNames.getD 6 (bs []) = n6
    generalize ctNames.getD 7 (bs []) = n7
    generalize ctNames.getD 8 (bs []) = n8
    generalize ctNames.getD 9 (bs []) = n9
    simp only [lookG, ixS]
    repeat (split; rfl)
    rfl
  rw [h]
  cases ctKind k with
  | none => rfl
  | some i => rfl
end Sim

namespace Sim
open Go Go.Vc
theorem insN_mem {s : ByteArray} : ∀ {l : List ByteArray}, StrS l → s ∈ l → insN l s = l
  | [], _, h => by simp at h
  | x :: l, hs, h => by
    obtain ⟨h1, h2⟩ := List.pairwise_cons.1 hs
    unfold insN
    by_cases e : x = s
    · rw [if_pos e]
    · have hm : s ∈ l := (List.mem_cons.1 h).resolve_left fun e' => e e'.symm
      rw [if_neg e, if_neg (fun hlt => ltS_irrefl _ (ltS_trans hlt (h1 s hm))), insN_mem h2 hm]
theorem insN_at {s : ByteArray} : ∀ {l : List ByteArray} {k : Nat}, s ∉ l → k ≤ l.length → (∀ j y, j < k → l[j]? = some y → ltS y s) → (∀ y, l[k]? = some y → ¬ ltS y s) → insN l s = l.take k ++ s :: l.drop k
  | [], k, _, hk, _, _ => by
    have : k = 0 := by simpa using hk
    subst this; rfl
  | x :: l, 0, hm, _, _, h2 => by
    have h3 := h2 x rfl
    have hne : ¬ x = s := fun e => hm (by simp [e])
    unfold insN
    rw [if_neg hne, if_pos (Classical.byContradiction fun hn => hne (ltS_tri h3 hn))]
    rfl
  | x :: l, k + 1, hm, hk, h1, h2 => by
    have h3 := h1 0 x (by omega) rfl
    have hne : ¬ x = s := ltS_ne h3
    unfold insN
    rw [if_neg hne, if_neg (fun h => ltS_irrefl _ (ltS_trans h h3))]
    rw [insN_at (fun h => hm (List.mem_cons_of_mem _ h)) (by simpa using hk) (fun j y hj hy => h1 (j + 1) y (by omega) (by simpa using hy)) (fun y hy => h2 y (by simpa using hy))]
    rfl
theorem normN_snoc (l : List ByteArray) (s : ByteArray) : normN (l ++ [s]) = insN (normN l) s := by unfold normN; rw [List.foldl_append]; rfl
end Sim

namespace Go.Proofs.YtagmagnkigjggaaGreatDoor
open Go.Vc Sim
theorem in_spec (w0 : World) (sh : Shared) (v : Value) (l : List ByteArray) (s : ByteArray) (hl : RdSl w0 sh encY 1 v l) (hb : l.length ≤ 1099511627776) :
    FnE PP w0 sh 51 [v, .string s] [] (.bool (inS l s)) [] := by
  obtain ⟨a, c, rfl⟩ := hl.val
  refine fn_of_run en51 fn51 rfl rfl rfl ?_
  repeat' (first | refine zck ?_ | refine zcp (by kernel_rfl) ?_ | refine zcl ?_ | (refine zap rfl ?_; first | refine zan rfl ?_) | refine zch ?_)
  refine run_loop (S := Nat) (fun j => [(0, .slice a l.length c), (1, .string s), (5, .int .i64 j)]) (fun j Γ => Γ = [] ∧ j ≤ l.length ∧ inS l s = inS (l.drop j) s) (fun j => l.length - j) 0 ⟨rfl, rfl, rfl, trivial⟩ ⟨rfl, by omega, rfl⟩ ?_
  rintro j Γ junk ⟨rfl, g1, g2⟩
  by_cases hj : j < l.length
  · obtain ⟨x, hx⟩ : ∃ x, l[j]? = some x := ⟨_, List.getElem?_eq_getElem hj⟩
    obtain ⟨b1, o1, k1, T1, f1, rfl, e2, _, e3⟩ := hl.cells hx
    have r1 : ∀ o, o = o1 + j * 1 + 0 → rd false 1 k1.toList o = some (.string x) := fun o ho => e3 0 _ rfl o ho
    have hd : l.drop j = x :: l.drop (j + 1) := by
      rw [List.drop_eq_getElem_cons hj]
      congr 1
      exact (List.getElem?_eq_some_iff.1 hx).2
    have hin : inS (l.drop j) s = (decide (x = s) || inS (l.drop (j + 1)) s) := by rw [hd]; rfl
    rw [hin] at g2
    by_cases hxy : x = s
    · rw [decide_eq_true hxy, Bool.true_or] at g2
      rw [g2]
      repeat' (first | refine zck ?_ | refine zcp (by kernel_rfl) ?_ | refine zcm ?_ | refine zcl ?_ | (refine zap rfl ?_; first | refine zad rfl e2 (r1 _ (by omega)) ?_ | refine reg_eqST rfl rfl hxy ?_ | refine zan rfl ?_ | refine zan rfl ?_ | refine zce rfl ?_ | refine zbg rfl rfl (by omega) ?_ | refine zas rfl rfl (by omega) ?_) | refine zch ?_ | refine zci rfl ?_)
      exact qret1 (fun _ _ h => h) rfl ⟨rfl, rfl⟩
    · rw [decide_eq_false hxy, Bool.false_or] at g2
      repeat' (first | refine zck ?_ | refine zcp (by kernel_rfl) ?_ | refine zcm ?_ | refine zcl ?_ | refine zcn ?_ | (refine zap rfl ?_; first | refine zad rfl e2 (r1 _ (by omega)) ?_ | refine reg_eqSF rfl rfl hxy ?_ | refine zan rfl ?_ | refine zan rfl ?_ | refine zce rfl ?_ | refine zbg rfl rfl (by omega) ?_ | refine zau rfl rfl (by omega) ?_ | refine zas rfl rfl (by omega) ?_) | refine zch ?_ | refine zci rfl ?_ | refine zcj rfl ?_)
      exact cut_end ⟨rfl, j + 1, ⟨rfl, rfl, int_eq (by omega), trivial⟩, ⟨rfl, by omega, g2⟩, by omega⟩
  · rw [List.drop_of_length_le (by omega)] at g2
    rw [g2]
    repeat' (first | refine zck ?_ | refine zcp (by kernel_rfl) ?_ | (refine zap rfl ?_; first | refine zan rfl ?_ | refine zce rfl ?_ | refine zbh rfl rfl (by omega) ?_) | refine zch ?_ | refine zcj rfl ?_)
    refine cut_exit rfl rfl ?_
    repeat' (first | refine zck ?_ | refine zcp (by kernel_rfl) ?_ | (refine zap rfl ?_; first | refine zan rfl ?_) | refine zch ?_)
    exact ret_tmp1 rfl ⟨rfl, rfl⟩
abbrev strR (w0 : World) (a : Option Addr) (c : Nat) (l : List ByteArray) : Asn := Rds fun bl => RdSl w0 bl encY 1 (.slice a l.length c) l
set_option maxHeartbeats 2000000 in
theorem names47_spec (w0 : World) (sh : Shared) (v : Value) (l : List ByteArray) (hl : RdSl w0 sh encY 1 v l) (hb : l.length ≤ 100000) :
    Vc.Fn PP w0 sh 38 [v] [] (fun r Γ => ∃ a c, r = .slice a (normN l).length c ∧ Γ = [strR w0 a c (normN l)]) := by
  obtain ⟨x1, y1, rfl⟩ := hl.val
  refine fn_of_run en38 fn38 rfl rfl rfl ?_
  repeat (first | refine zck ?_ | refine zcl ?_ | refine zcm ?_ | refine zcn ?_)
  first | refine zcp (by kernel_rfl) ?_ | refine zcq PP_mixed (by kernel_rfl) (by kernel_rfl) ?_
  repeat' (refine zap rfl ?_; first | refine zan rfl ?_)
  all_goals refine zch ?_
  all_goals repeat (first | refine zck ?_ | refine zcl ?_ | refine zcm ?_ | refine zcn ?_)
  repeat (first | refine zck ?_ | refine zcl ?_ | refine zcm ?_ | refine zcn ?_)
  first | refine zcp (by kernel_rfl) ?_ | refine zcq PP_mixed (by kernel_rfl) (by kernel_rfl) ?_
  repeat' (refine zap rfl ?_; first | refine zan rfl ?_)
  all_goals refine zch ?_
  all_goals repeat (first | refine zck ?_ | refine zcl ?_ | refine zcm ?_ | refine zcn ?_)
  refine run_emptyR (fun bl => RdSl w0 bl encY 1 (.slice none 0 0) []) RdSl.nil ?_
  repeat (first | refine zck ?_ | refine zcl ?_ | refine zcm ?_ | refine zcn ?_)
  first | refine zcp (by kernel_rfl) ?_ | refine zcq PP_mixed (by kernel_rfl) (by kernel_rfl) ?_
  repeat' (refine zap rfl ?_; first | refine zan rfl ?_)
  all_goals refine zch ?_
  all_goals repeat (first | refine zck ?_ | refine zcl ?_ | refine zcm ?_ | refine zcn ?_)
  refine run_loop (S := Nat × Option Addr × Nat) (fun s => [(0, .slice x1 l.length y1), (3, .slice s.2.1 (normN (l.take s.1)).length s.2.2), (4, .int .i64 s.1)])
    (fun s Γ => Γ = [strR w0 s.2.1 s.2.2 (normN (l.take s.1))] ∧ s.1 ≤ l.length) (fun s => l.length - s.1) (0, none, 0) ⟨rfl, rfl, rfl, trivial⟩ ⟨rfl, Nat.zero_le _⟩ ?_
  rintro ⟨i, a, c⟩ Γ junk ⟨rfl, g1⟩
  dsimp only at g1 ⊢
  by_cases hi : i < l.length
  · obtain ⟨x, hx⟩ : ∃ x, l[i]? = some x := ⟨_, List.getElem?_eq_getElem hi⟩
    obtain ⟨b1, o1, k1, T1, f1, rfl, e2, _, e3⟩ := hl.cells hx
    have r1 : ∀ o, o = o1 + i * 1 + 0 → rd false 1 k1.toList o = some (.string x) := fun o ho => e3 0 _ rfl o ho
    have hnx : normN (l.take (i + 1)) = insN (normN (l.take i)) x := by rw [take_snoc hx, normN_snoc]
    have hstr := normN_str (l.take i)
    have hln : (normN (l.take i)).length ≤ 100000 := by have := normN_len (l.take i); rw [List.length_take] at this; omega
    generalize normN (l.take i) = out at *
    have hin := fun sh1 h => in_spec w0 sh1 (.slice a out.length c) out x h (by omega)
    have hin2 := Fn.lendR (sh := []) (Γ := []) (φ := fun bl => RdSl w0 bl encY 1 (.slice a out.length c) out) en51 (fun sh1 bl h1 h2 h3 => hin sh1 (h3.mono h2))
    by_cases hB : inS out x = true
    · have hm : x ∈ out := by simpa [inS] using hB
      rw [insN_mem hstr hm] at hnx
      rw [hB] at hin2
      repeat' (first | refine zck ?_ | refine zcp (by kernel_rfl) ?_ | refine zcm ?_ | refine zcl ?_ | refine zcs rfl ?_ | (refine zap rfl ?_; first | refine zad rfl e2 (r1 _ (by omega)) ?_ | refine zan rfl ?_ | refine zan rfl ?_ | refine zce rfl ?_ | (refine zai [0] hin2 rfl rfl rfl sub_nil ?_; rintro v Γ ⟨_, ⟨rfl, rfl⟩, rfl⟩) | refine zbg rfl rfl (by omega) ?_ | refine zau rfl rfl (by omega) ?_ | refine zas rfl rfl (by omega) ?_) | refine zch ?_ | refine zci rfl ?_)
      exact cut_end ⟨rfl, (i + 1, a, c), ⟨rfl, by dsimp only; rw [hnx]; rfl, int_eq (by dsimp only; omega), trivial⟩, ⟨by dsimp only; rw [hnx]; rfl, by dsimp only; omega⟩, by dsimp only; omega⟩
    · have hB := Bool.eq_false_iff.2 hB
      have hm : ¬ x ∈ out := fun hx => by simp [inS] at hB; exact hB x hx rfl
      rw [hB] at hin2
      repeat (first | refine zck ?_ | refine zcl ?_ | refine zcm ?_ | refine zcn ?_)
      first | refine zcp (by kernel_rfl) ?_ | refine zcq PP_mixed (by kernel_rfl) (by kernel_rfl) ?_
      repeat' (refine zap rfl ?_; first | refine zan rfl ?_ | refine zce rfl ?_ | refine zbg rfl rfl (by omega) ?_)
      all_goals refine zch ?_
      all_goals repeat (first | refine zck ?_ | refine zcl ?_ | refine zcm ?_ | refine zcn ?_)
      refine zci rfl ?_
      repeat (first | refine zck ?_ | refine zcl ?_ | refine zcm ?_ | refine zcn ?_)
      first | refine zcp (by kernel_rfl) ?_ | refine zcq PP_mixed (by kernel_rfl) (by kernel_rfl) ?_
      repeat' (refine zap rfl ?_; first | refine zad rfl e2 (r1 _ (by omega)) ?_ | refine zan rfl ?_ | (refine zai [0] hin2 rfl rfl rfl sub_nil ?_; rintro v Γ ⟨_, ⟨rfl, rfl⟩, rfl⟩) | refine zas rfl rfl (by omega) ?_)
      all_goals refine zch ?_
      all_goals repeat (first | refine zck ?_ | refine zcl ?_ | refine zcm ?_ | refine zcn ?_)
      refine zcj rfl ?_
      refine run_shareB [0] rfl (fun bl hO => ?_)
      repeat (first | refine zck ?_ | refine zcl ?_ | refine zcm ?_ | refine zcn ?_)
      first | refine zcp (by kernel_rfl) ?_ | refine zcq PP_mixed (by kernel_rfl) (by kernel_rfl) ?_
      repeat' (refine zap rfl ?_; first | refine zan rfl ?_)
      all_goals refine zch ?_
      all_goals repeat (refine zck ?_)
      refine run_bind_eq2 (σ := { k : Nat // k ≤ out.length ∧ insN out x = out.take k ++ x :: out.drop k }) (l' := fun s => [(0, .slice (some ⟨b1, o1, none⟩) l.length y1), (3, .slice a out.length c), (4, .int .i64 i), (5, .int .i64 s.1)]) (Γ' := fun _ => []) ?_ ?_
      · refine zcl ?_
        refine run_loop (S := Nat) (fun k => [(0, .slice (some ⟨b1, o1, none⟩) l.length y1), (3, .slice a out.length c), (4, .int .i64 i), (5, .int .i64 k)])
          (fun k Γ => Γ = [] ∧ k ≤ out.length ∧ ∀ j y, j < k → out[j]? = some y → ltS y x) (fun k => out.length - k) 0 ⟨rfl, rfl, rfl, rfl, trivial⟩ ⟨rfl, by omega, fun j y h _ => by omega⟩ ?_
        rintro k Γ junk ⟨rfl, q1, q2⟩
        by_cases hk : k < out.length
        · obtain ⟨y, hy⟩ : ∃ y, out[k]? = some y := ⟨_, List.getElem?_eq_getElem hk⟩
          obtain ⟨b3, o3, k3, T3, f3, rfl, g3, _, g4⟩ := hO.cells hy
          have r3 : ∀ o, o = o3 + k * 1 + 0 → rd false 1 k3.toList o = some (.string y) := fun o ho => g4 0 _ rfl o ho
          by_cases hlt : ltS y x
          · have hBl : Op.bytesLess y.toList x.toList = true := by rw [bytesLess_lt]; exact decide_eq_true hlt
            repeat' (first | refine zck ?_ | refine zcp (by kernel_rfl) ?_ | refine zcq PP_mixed (by kernel_rfl) (by kernel_rfl) ?_ | refine zcm ?_ | refine zcl ?_ | refine zcn ?_ | (refine zap rfl ?_; first | refine zad rfl (fun hF Γ w h1 h2 => e2 hF Γ w (fun p hp => h1 p (by simp [hp])) h2) (r1 _ (by omega)) ?_ | refine zad rfl (fun hF Γ w h1 h2 => g3 hF Γ w (fun p hp => h1 p (by simp [hp])) h2) (r3 _ (by omega)) ?_ | refine reg_ltSB true rfl rfl hBl ?_ | refine zaj rfl ?_ | refine zan rfl ?_ | refine zan rfl ?_ | refine zce rfl ?_ | refine zbg rfl rfl (by omega) ?_ | refine zau rfl rfl (by omega) ?_ | refine zbu rfl ?_ | refine zas rfl rfl (by omega) ?_) | refine zch ?_ | refine zci rfl ?_)
            exact cut_end ⟨rfl, k + 1, ⟨rfl, rfl, rfl, int_eq (by omega), trivial⟩, ⟨rfl, by omega, fun j z hj hz => by
              by_cases hjk : j = k
              · subst hjk; rw [hy] at hz; cases hz; exact hlt
              · exact q2 j z (by omega) hz⟩, by omega⟩
          · have hBl : Op.bytesLess y.toList x.toList = false := by rw [bytesLess_lt]; exact decide_eq_false hlt
            repeat' (first | refine zck ?_ | refine zcq PP_mixed (by kernel_rfl) (by kernel_rfl) ?_ | (refine zap rfl ?_; first | refine zad rfl (fun hF Γ w h1 h2 => e2 hF Γ w (fun p hp => h1 p (by simp [hp])) h2) (r1 _ (by omega)) ?_ | refine zad rfl (fun hF Γ w h1 h2 => g3 hF Γ w (fun p hp => h1 p (by simp [hp])) h2) (r3 _ (by omega)) ?_ | refine reg_ltSB false rfl rfl hBl ?_ | refine zaj rfl ?_ | refine zan rfl ?_ | refine zce rfl ?_ | refine zbg rfl rfl (by omega) ?_ | refine zbu rfl ?_ | refine zas rfl rfl (by omega) ?_) | refine zch ?_ | refine zcj rfl ?_)
            refine cut_exit rfl rfl ?_
            exact cut_end ⟨rfl, ⟨k, by omega, insN_at hm (by omega) q2 (fun z hz => by rw [hy] at hz; cases hz; exact hlt)⟩, ⟨rfl, rfl, rfl, rfl, trivial⟩, rfl⟩
        · repeat' (first | refine zck ?_ | refine zcq PP_mixed (by kernel_rfl) (by kernel_rfl) ?_ | (refine zap rfl ?_; first | refine zak rfl ?_ | refine zan rfl ?_ | refine zce rfl ?_ | refine zbh rfl rfl (by omega) ?_ | refine zbv rfl ?_) | refine zch ?_ | refine zcj rfl ?_)
          refine cut_exit rfl rfl ?_
          exact cut_end ⟨rfl, ⟨k, q1, insN_at hm q1 q2 (fun z hz => by rw [List.getElem?_eq_none (by omega)] at hz; cases hz)⟩, ⟨rfl, rfl, rfl, rfl, trivial⟩, rfl⟩
      · rintro ⟨k, hk1, hk2⟩ junk
        dsimp only
        rw [hk2] at hnx
        have h1 := hO.pre hk1
        have h2 := hO.tail hk1
        have hcap := hO.cap
        have hone : ∀ m : List ByteArray, allOne (m.flatMap encY) = true := fun m => by rw [← unB_map m, ← strsV_y]; exact strsV_one _
        have hl1 : (out.take k).length = k := by rw [List.length_take]; omega
        have hl2 : (out.drop k).length = out.length - k := List.length_drop
        repeat' (first | refine zck ?_ | refine zcp (by kernel_rfl) ?_ | refine zcn ?_ | (refine zap rfl ?_; first | refine zad rfl (fun hF Γ w h1 h2 => e2 hF Γ w (fun p hp => h1 p (by simp [hp])) h2) (r1 _ (by omega)) ?_ | refine reg_buildSlice rfl rfl rfl rfl rfl rfl (fun nb => ?_) | refine reg_slice2 (sz := 1) rfl rfl (by omega) ?_ | refine reg_sliceT rfl rfl ⟨by omega, by omega⟩ ?_ | refine zan rfl ?_ | refine zan rfl ?_ | refine reg_append 0 1 rfl rfl rfl rfl rfl rfl rfl rfl (by omega) (fun _ _ => rfl) (fun a4 c4 => ?_) | refine reg_append_rdE 0 rfl rfl (h2.mono fun p hp => List.mem_append_right _ hp) (by decide) (hone _) rfl rfl (by omega) (fun _ _ => rfl) (fun a5 c5 => ?_) | (refine reg_own 0 rfl rfl (len := 0) (cap := 0) (sz := 1) ⟨rfl, Nat.le_refl _, Nat.le_refl _⟩ rfl ?_; refine reg_append_rdE 0 rfl rfl (h1.mono fun p hp => List.mem_append_right _ hp) (by decide) (hone _) rfl rfl (by omega) (fun _ _ => rfl) (fun a3 c3 => ?_)) | refine zau rfl rfl (by omega) ?_ | refine zas rfl rfl (by omega) ?_) | refine zch ?_)
        have hL : 0 + (out.take k).length + 1 + (out.drop k).length = (normN (l.take (i + 1))).length := by rw [hnx, List.length_append, List.length_cons]; omega
        refine run_take [0] rfl ?_
        refine run_slR encY 0 (l := normN (l.take (i + 1))) rfl (by rw [hnx]; show ([] ++ (out.take k).flatMap encY) ++ [Value.string x] ++ (out.drop k).flatMap encY = _; simp) (fun _ _ => rfl) hL.symm rfl ?_
        exact cut_end ⟨rfl, (i + 1, a5, c5), ⟨rfl, congrArg (fun n => Value.slice a5 n c5) hL, int_eq (by dsimp only; omega), trivial⟩, ⟨by dsimp only [strR]; rw [← hL], by dsimp only; omega⟩, by dsimp only; omega⟩
  · have hil : i = l.length := by omega
    subst hil
    rw [List.take_length]
    repeat' (first | refine zck ?_ | refine zcp (by kernel_rfl) ?_ | (refine zap rfl ?_; first | refine zan rfl ?_ | refine zce rfl ?_ | refine zbh rfl rfl (by omega) ?_) | refine zch ?_ | refine zcj rfl ?_)
    refine cut_exit rfl rfl ?_
    repeat' (first | refine zck ?_ | refine zcp (by kernel_rfl) ?_ | (refine zap rfl ?_; first | refine zan rfl ?_ | refine zan rfl ?_) | refine zch ?_)
    exact ret_tmp1 rfl ⟨a, c, rfl, rfl⟩
end Go.Proofs.YtagmagnkigjggaaGreatDoor

namespace Sim
end Sim
namespace Go.Proofs.YtagmagnkigjggaaGreatDoor
open Go.Vc Sim
end Go.Proofs.YtagmagnkigjggaaGreatDoor

namespace Sim
theorem lookK_dropR {st : List (ByteArray × ByteArray)} {j : Nat} {x : ByteArray × ByteArray} {s : ByteArray} (h : st[j]? = some x) : lookK (st.drop j) s = if x.1 = s then some x.2 else lookK (st.drop (j + 1)) s := by
  have hj := (List.getElem?_eq_some_iff.1 h).1
  rw [List.drop_eq_getElem_cons hj, (List.getElem?_eq_some_iff.1 h).2, lookK]
end Sim
namespace Go.Proofs.YtagmagnkigjggaaGreatDoor
open Go.Vc Sim
set_option maxHeartbeats 1000000 in
theorem rkind_spec (w0 : World) (sh : Shared) (ws : Value) (am : Option Addr) (lm cm : Nat) (st : List (ByteArray × ByteArray)) (name : ByteArray) (h : RdSl w0 sh encD 2 ws st) (hn : st.length ≤ 1000000) :
    FnE PP w0 sh 35 [.agg #[ws, .slice am lm cm], .string name] [] (.tuple #[.string ((lookK st name).getD ⟨#[]⟩), .bool (lookK st name).isSome]) [] := by
  obtain ⟨a1, c1, rfl, hc1, _⟩ := id h
  refine fn_of_run en35 fn35 rfl rfl rfl ?_
  repeat (first | refine zck ?_ | refine zcl ?_ | refine zcm ?_ | refine zcn ?_)
  first | refine zcp (by kernel_rfl) ?_ | refine zcq PP_mixed (by kernel_rfl) (by kernel_rfl) ?_
  repeat' (refine zap rfl ?_; first | refine zan rfl ?_ | refine zaq (cs := [_, _]) rfl (fun nb => ?_))
  all_goals refine zch ?_
  all_goals repeat (first | refine zck ?_ | refine zcl ?_ | refine zcm ?_ | refine zcn ?_)
  refine run_share [0] rfl ?_
  repeat (first | refine zck ?_ | refine zcl ?_ | refine zcm ?_ | refine zcn ?_)
  first | refine zcp (by kernel_rfl) ?_ | refine zcq PP_mixed (by kernel_rfl) (by kernel_rfl) ?_
  repeat' (refine zap rfl ?_; first | refine zan rfl ?_)
  all_goals refine zch ?_
  all_goals repeat (first | refine zck ?_ | refine zcl ?_ | refine zcm ?_ | refine zcn ?_)
  refine run_loop (S := Nat) (fun j => [(1, .string name), (2, .pointer (some ⟨nb, 0, none⟩)), (4, .string ⟨#[]⟩), (5, .bool false), (6, .int .i64 j)]) (fun j Γ => Γ = [] ∧ j ≤ st.length ∧ lookK st name = lookK (st.drop j) name) (fun j => st.length - j) 0 ⟨rfl, rfl, rfl, rfl, rfl, trivial⟩ ⟨rfl, by omega, rfl⟩ ?_
  rintro j Γ junk ⟨rfl, g1, g2⟩
  by_cases hj : j < st.length
  · obtain ⟨x, hx⟩ : ∃ x, st[j]? = some x := ⟨_, List.getElem?_eq_getElem hj⟩
    obtain ⟨b, off, cc, T, fr, rfl, e2, _, e4⟩ := h.cells hx
    have r0 : ∀ o, o = off + j * 2 + 0 → rd false 1 cc.toList o = some (.string x.1) := fun o ho => e4 0 _ rfl o ho
    have r1 : ∀ o, o = off + j * 2 + 1 → rd false 1 cc.toList o = some (.string x.2) := fun o ho => e4 1 _ rfl o ho
    rw [lookK_dropR hx] at g2
    by_cases he : x.1 = name
    · rw [if_pos he] at g2
      rw [g2]
      repeat' (first | refine zck ?_ | refine zcp (by kernel_rfl) ?_ | refine zcm ?_ | refine zcl ?_ | (refine zap rfl ?_; first | refine zaa 0 rfl rfl rfl ?_ | refine zad rfl (fun hF Γ w h1 h2 => e2 hF Γ w (fun p hp => h1 p (by simp [hp])) h2) (r0 _ (by omega)) ?_ | refine zad rfl (fun hF Γ w h1 h2 => e2 hF Γ w (fun p hp => h1 p (by simp [hp])) h2) (r1 _ (by omega)) ?_ | refine reg_eqST rfl rfl he ?_ | refine zan rfl ?_ | refine zan rfl ?_ | refine zce rfl ?_ | refine zao rfl ?_ | refine zbg rfl rfl (by omega) ?_ | refine zas rfl rfl (by omega) ?_ | refine zat rfl rfl (by omega) ?_) | refine zch ?_ | refine zci rfl ?_)
      exact qret2 (fun _ _ h => h) rfl ⟨rfl, rfl⟩
    · rw [if_neg he] at g2
      repeat' (first | refine zck ?_ | refine zcp (by kernel_rfl) ?_ | refine zcm ?_ | refine zcl ?_ | refine zcn ?_ | (refine zap rfl ?_; first | refine zaa 0 rfl rfl rfl ?_ | refine zad rfl (fun hF Γ w h1 h2 => e2 hF Γ w (fun p hp => h1 p (by simp [hp])) h2) (r0 _ (by omega)) ?_ | refine reg_eqSF rfl rfl he ?_ | refine zan rfl ?_ | refine zan rfl ?_ | refine zce rfl ?_ | refine zao rfl ?_ | refine zbg rfl rfl (by omega) ?_ | refine zau rfl rfl (by omega) ?_ | refine zas rfl rfl (by omega) ?_ | refine zat rfl rfl (by omega) ?_) | refine zch ?_ | refine zci rfl ?_ | refine zcj rfl ?_)
      exact cut_end ⟨rfl, j + 1, ⟨rfl, rfl, rfl, rfl, int_eq (by omega), trivial⟩, ⟨rfl, by omega, g2⟩, by omega⟩
  · have he : lookK st name = none := by rw [g2, List.drop_eq_nil_of_le (by omega)]; rfl
    rw [he]
    repeat' (first | refine zck ?_ | refine zcp (by kernel_rfl) ?_ | (refine zap rfl ?_; first | refine zan rfl ?_ | refine zaa 0 rfl rfl rfl ?_ | refine zce rfl ?_ | refine zao rfl ?_ | refine zbh rfl rfl (by omega) ?_) | refine zch ?_ | refine zcj rfl ?_)
    refine cut_exit rfl rfl ?_
    repeat' (first | refine zck ?_ | refine zcp (by kernel_rfl) ?_ | (refine zap rfl ?_; first | refine zan rfl ?_) | refine zch ?_)
    exact ret_tmp2 rfl ⟨rfl, rfl⟩
end Go.Proofs.YtagmagnkigjggaaGreatDoor

namespace Go.Proofs.YtagmagnkigjggaaGreatDoor
open Go.Vc Sim
theorem has_spec (w0 : World) (sh : Shared) (k : Int) : FnE PP w0 sh 21 [.int .i64 k] [] (.bool (hasEx k)) [] := by
  refine fn_of_run en21 fn21 rfl rfl rfl ?_
  by_cases h4 : k = 4
  · subst h4
    repeat' (first | refine zck ?_ | refine zcp (by kernel_rfl) ?_ | (refine zap rfl ?_; first | refine zak rfl ?_ | refine zan rfl ?_ | refine zan rfl ?_ | refine zbf rfl rfl (by omega) ?_ | refine zbv rfl ?_) | refine zch ?_)
    exact ret_tmp1 rfl ⟨rfl, rfl⟩
  · by_cases h6 : k = 6
    · subst h6
      repeat' (first | refine zck ?_ | refine zcp (by kernel_rfl) ?_ | (refine zap rfl ?_; first | refine zaj rfl ?_ | refine zan rfl ?_ | refine zan rfl ?_ | refine zbe rfl rfl (by omega) ?_ | refine zbf rfl rfl (by omega) ?_ | refine zbu rfl ?_) | refine zch ?_)
      exact ret_tmp1 rfl ⟨rfl, rfl⟩
    · have hh : hasEx k = true := by unfold hasEx; simp [h4, h6]
      rw [hh]
      repeat' (first | refine zck ?_ | refine zcp (by kernel_rfl) ?_ | (refine zap rfl ?_; first | refine zaj rfl ?_ | refine zan rfl ?_ | refine zan rfl ?_ | refine zbe rfl rfl (by omega) ?_ | refine zbu rfl ?_) | refine zch ?_)
      exact ret_tmp1 rfl ⟨rfl, rfl⟩
end Go.Proofs.YtagmagnkigjggaaGreatDoor

