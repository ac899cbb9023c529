import Derived.Test.YtjapaghhgpaldaaGreatDoorPart7
import Derived.Test.YtjapaghhgpaldaaGreatDoorPart8
import Derived.Test.YtjapaghhgpaldaaGreatDoorPart6
import Derived.Test.YtjapaghhgpaldaaGreatDoorKit
/- Lemmas and walks for the claims of this seat (own work): Rp1 Gp1 Pp0 Pp1. -/
namespace Go.Vc
open Sim
theorem allOne_app : ∀ {a b : List Value}, allOne a = true → allOne b = true → allOne (a ++ b) = true
  | [], b, _, h => h
  | x :: a, b, h, h2 => by
    rw [allOne, Bool.and_eq_true] at h
    rw [List.cons_append, allOne, Bool.and_eq_true]
    exact ⟨h.1, allOne_app h.2 h2⟩
theorem RdOs.flat {w0 : World} {sh : Shared} : ∀ {l : List PO} {cl : List (List Value)}, RdOs w0 sh l cl → allOne (cl.flatMap fun x => x) = true ∧ ∀ c ∈ cl, c.length = 3
  | [], _, h => by rw [show _ = [] from h]; exact ⟨rfl, by simp⟩
  | o :: l, _, h => by
    obtain ⟨c, cl', rfl, ⟨vp, vb, rfl, h1, h2⟩, h3⟩ := h
    obtain ⟨i1, i2⟩ := RdOs.flat h3
    obtain ⟨x1, y1, rfl⟩ := h1.val
    obtain ⟨x2, y2, rfl, _⟩ := h2.len
    refine ⟨?_, fun c hc => ?_⟩
    · rw [List.flatMap_cons]
      exact allOne_app rfl i1
    · rcases List.mem_cons.1 hc with rfl | hc
      · rfl
      · exact i2 c hc
theorem RdSs.flat {w0 : World} {sh : Shared} : ∀ {l : List PS} {cl : List (List Value)}, RdSs w0 sh l cl → allOne (cl.flatMap fun x => x) = true ∧ ∀ c ∈ cl, c.length = 11
  | [], _, h => by unfold RdSs at h; rw [h]; exact ⟨rfl, by simp⟩
  | .mk _ _ _ (.mk _ _ _ _ _ _) _ _ :: l, _, h => by
    unfold RdSs at h
    obtain ⟨c, cl', rfl, h2, h3⟩ := h
    obtain ⟨i1, i2⟩ := RdSs.flat h3
    unfold RdS at h2
    obtain ⟨ce, vb, ve, c1, c2, rfl, he, hb, _, hx, _⟩ := h2
    unfold RdE at he
    obtain ⟨va, vo, c3, c4, rfl, ha, _, ho, _⟩ := he
    obtain ⟨x1, y1, rfl, _⟩ := hb
    obtain ⟨x2, y2, rfl, _⟩ := hx
    obtain ⟨x3, y3, rfl, _⟩ := ha
    obtain ⟨x4, y4, rfl, _⟩ := ho
    refine ⟨?_, fun c hc => ?_⟩
    · rw [List.flatMap_cons]
      exact allOne_app rfl i1
    · rcases List.mem_cons.1 hc with rfl | hc
      · rfl
      · exact i2 c hc
theorem RdSs.app {w0 : World} {sh : Shared} : ∀ {l l' : List PS} {cl cl' : List (List Value)}, RdSs w0 sh l cl → RdSs w0 sh l' cl' → RdSs w0 sh (l ++ l') (cl ++ cl')
  | [], _, _, _, h, h2 => by unfold RdSs at h; rw [h]; exact h2
  | e :: l, _, _, _, h, h2 => by
    unfold RdSs at h
    obtain ⟨c, cl', rfl, h3, h4⟩ := h
    rw [List.cons_append]
    unfold RdSs
    exact ⟨c, _, rfl, h3, RdSs.app h4 h2⟩
end Go.Vc
namespace Go.Proofs.YtjapaghhgpaldaaGreatDoor
open Go.Vc Sim
theorem same_so (w0 : World) (sh : Shared) (p q : P6) (a b : Ef) (ha : RdEfV w0 sh (efV p a) a) (sa : a.sm 1000000) (sb : b.sm 1000000) :
    FnE PP w0 sh 13 [efV p a, efV q b] [rdV w0 (efV q b) b] (.bool (sameE a b)) [rdV w0 (efV q b) b] := by
  refine (Fn.lendR (φ := fun bl => RdEfV w0 bl (efV q b) b) en13 (fun sh1 bl h1 h2 h3 => same_spec w0 sh1 _ _ a b (ha.mono h1) (h3.mono h2) sa sb)).mono ?_
  rintro v Γ ⟨_, ⟨rfl, rfl⟩, rfl⟩
  exact ⟨rfl, rfl⟩
theorem small_of {p : PP'} (h : PO.costL p.opers + p.stores.length ≤ 400) : PP'.small p ∧ ∀ o ∈ p.opers, PS.sizeL o.body ≤ 400 := by
  have h1 := PO.costL_len p.opers
  refine ⟨⟨by omega, by omega, fun o ho => ?_⟩, fun o ho => ?_⟩
  all_goals
    have h2 := PO.costL_mem ho
    unfold PO.cost at h2
    omega
theorem sizeL_app : ∀ a b : List PS, PS.sizeL (a ++ b) = PS.sizeL a + PS.sizeL b
  | [], b => by rw [List.nil_append, PS.sizeL]; omega
  | x :: a, b => by rw [List.cons_append, PS.sizeL, PS.sizeL, sizeL_app a b]; omega
theorem small_put {st : List (ByteArray × ByteArray)} {o : PO} {l : List PO} {b : List PS} (h : PO.costL (o :: l) + st.length ≤ 400) (hb : PS.sizeL b ≤ 1000) : PP'.small ⟨st, o.put b :: l⟩ ∧ ∀ x ∈ o.put b :: l, PS.sizeL x.body ≤ 10000 := by
  have h1 := PO.costL_len (o :: l)
  simp only [List.length_cons] at h1
  refine ⟨⟨by dsimp only; omega, by simp only [List.length_cons]; omega, fun x hx => ?_⟩, fun x hx => ?_⟩
  all_goals
    rcases List.mem_cons.1 hx with rfl | hx
    · have h2 := PO.costL_mem (List.Mem.head (a := o) l)
      unfold PO.cost at h2
      unfold PO.put
      dsimp only
      omega
    · have h2 := PO.costL_mem (List.Mem.tail o hx)
      unfold PO.cost at h2
      omega
theorem repS_size (k : Int) (b : List PS) : PS.sizeL [repS k b] = 2 + PS.sizeL b := by
  unfold repS
  simp only [PS.sizeL, PS.size, PE.size, PE.sizeL]
  omega
set_option maxHeartbeats 4000000 in
theorem repeats_spec (w0 : World) (hk : KwOk w0) (v : Value) (p : PP') (k8 : Nat) (hp : RdP w0 [] v p) (hz : p.sz) (hk8 : k8 ≤ 255) :
    FnE PP w0 [] 4 [v, .int .u8 (k8 : Int)] [] (.bool true) [] := by
  have haw := awake_spec w0 hk
  have hgr := greatP_spec w0 [] v p hp hz
  have hp0 := hp
  obtain ⟨vs, vo, rfl, h1, h2⟩ := hp
  obtain ⟨a1, c1, hvs, hc1, _⟩ := id h1
  obtain ⟨a2, c2, hvo, hc2⟩ := h2.len
  subst hvs; subst hvo
  have hlen := hz.2.2.1
  refine fn_of_run en4 fn4 rfl rfl rfl ?_
  repeat (first | refine zck ?_ | refine zcl ?_ | refine zcm ?_ | refine zcn ?_)
  first | refine zcp (by kernel_rfl) ?_ | refine zcq PP_mixed (by kernel_rfl) (by kernel_rfl) ?_
  repeat' (refine zap rfl ?_; first | refine zaj rfl ?_ | refine zak rfl ?_ | refine zal rfl ?_ | refine zam rfl rfl (fun _ => ?_) (fun _ => ?_) | refine zan rfl ?_ | refine zan rfl ?_ | refine zaa 0 rfl rfl rfl ?_ | refine zaa 1 rfl rfl rfl ?_ | refine zaa 2 rfl rfl rfl ?_ | refine zaa 3 rfl rfl rfl ?_ | refine zaa 4 rfl rfl rfl ?_ | refine zaa 5 rfl rfl rfl ?_ | refine zab 0 rfl rfl rfl ?_ | refine zab 1 rfl rfl rfl ?_ | refine zab 2 rfl rfl rfl ?_ | refine zab 3 rfl rfl rfl ?_ | refine zab 4 rfl rfl rfl ?_ | refine zab 5 rfl rfl rfl ?_ | refine zce rfl ?_ | refine zao rfl ?_ | refine zan rfl ?_ | refine zbo rfl rfl ?_ | refine zbp rfl rfl ?_ | refine zay rfl rfl (by omega) ?_ | refine zaz rfl rfl ?_ | refine zbb rfl rfl ?_ | refine zba rfl rfl ?_ | refine zbu rfl ?_ | refine zbv rfl ?_ | refine zbw rfl rfl rfl ?_ | refine zae 0 rfl rfl rfl rfl rfl rfl rfl ?_ | refine zae 1 rfl rfl rfl rfl rfl rfl rfl ?_ | refine zae 2 rfl rfl rfl rfl rfl rfl rfl ?_ | refine zae 3 rfl rfl rfl rfl rfl rfl rfl ?_ | refine zae 4 rfl rfl rfl rfl rfl rfl rfl ?_ | refine zae 5 rfl rfl rfl rfl rfl rfl rfl ?_ | refine zas rfl rfl (by omega) ?_ | refine zat rfl rfl (by omega) ?_ | refine zaq (cs := [_, _]) rfl (fun nb => ?_) | refine zar (fun nb => ?_) | refine zcb rfl ?_ | refine reg_buildA rfl ?_ | refine zbz rfl (by omega) ?_ | refine zca rfl ?_)
  all_goals refine zch ?_
  all_goals repeat (first | refine zck ?_ | refine zcl ?_ | refine zcm ?_ | refine zcn ?_)
  refine run_share [0] rfl ?_
  by_cases hn : p.opers.length = 0
  · repeat (first | refine zck ?_ | refine zcl ?_ | refine zcm ?_ | refine zcn ?_)
    first | refine zcp (by kernel_rfl) ?_ | refine zcq PP_mixed (by kernel_rfl) (by kernel_rfl) ?_
    repeat' (refine zap rfl ?_; first | refine zaa 0 rfl rfl rfl ?_ | refine zaj rfl ?_ | refine zak rfl ?_ | refine zal rfl ?_ | refine zam rfl rfl (fun _ => ?_) (fun _ => ?_) | refine zan rfl ?_ | refine zan rfl ?_ | refine zaa 0 rfl rfl rfl ?_ | refine zaa 1 rfl rfl rfl ?_ | refine zaa 2 rfl rfl rfl ?_ | refine zaa 3 rfl rfl rfl ?_ | refine zaa 4 rfl rfl rfl ?_ | refine zaa 5 rfl rfl rfl ?_ | refine zab 0 rfl rfl rfl ?_ | refine zab 1 rfl rfl rfl ?_ | refine zab 2 rfl rfl rfl ?_ | refine zab 3 rfl rfl rfl ?_ | refine zab 4 rfl rfl rfl ?_ | refine zab 5 rfl rfl rfl ?_ | (refine zai [] hgr rfl rfl rfl sub_nil ?_; rintro v Γ ⟨rfl, B, rfl, hB⟩; cases B) | refine zce rfl ?_ | refine zce rfl ?_ | refine zao rfl ?_ | refine zan rfl ?_ | refine zbc rfl rfl (by omega) ?_ | refine zbd rfl rfl (by omega) ?_ | refine zbe rfl rfl (by omega) ?_ | refine zbf rfl rfl (by omega) ?_ | refine zbo rfl rfl ?_ | refine zbp rfl rfl ?_ | refine zay rfl rfl (by omega) ?_ | refine zaz rfl rfl ?_ | refine zbb rfl rfl ?_ | refine zba rfl rfl ?_ | refine zbu rfl ?_ | refine zbv rfl ?_ | refine zbw rfl rfl rfl ?_ | refine zae 0 rfl rfl rfl rfl rfl rfl rfl ?_ | refine zae 1 rfl rfl rfl rfl rfl rfl rfl ?_ | refine zae 2 rfl rfl rfl rfl rfl rfl rfl ?_ | refine zae 3 rfl rfl rfl rfl rfl rfl rfl ?_ | refine zae 4 rfl rfl rfl rfl rfl rfl rfl ?_ | refine zae 5 rfl rfl rfl rfl rfl rfl rfl ?_ | refine zas rfl rfl (by omega) ?_ | refine zat rfl rfl (by omega) ?_ | refine zaq (cs := [_, _]) rfl (fun nb => ?_) | refine zar (fun nb => ?_) | refine zcb rfl ?_ | refine reg_buildA rfl ?_ | refine zbz rfl (by omega) ?_ | refine zca rfl ?_)
    all_goals refine zch ?_
    all_goals repeat (first | refine zck ?_ | refine zcl ?_ | refine zcm ?_ | refine zcn ?_)
    all_goals
      repeat' (first | refine zck ?_ | refine zcp (by kernel_rfl) ?_ | refine zcq PP_mixed (by kernel_rfl) (by kernel_rfl) ?_ | refine zcm ?_ | refine zcl ?_ | refine zcn ?_ | refine zco ?_ | refine zcs rfl ?_ | (refine zap rfl ?_; first | refine zaj rfl ?_ | refine zak rfl ?_ | refine zal rfl ?_ | refine zam rfl rfl (fun _ => ?_) (fun _ => ?_) | refine zan rfl ?_ | refine zan rfl ?_ | refine zaa 0 rfl rfl rfl ?_ | refine zaa 1 rfl rfl rfl ?_ | refine zaa 2 rfl rfl rfl ?_ | refine zaa 3 rfl rfl rfl ?_ | refine zaa 4 rfl rfl rfl ?_ | refine zaa 5 rfl rfl rfl ?_ | refine zab 0 rfl rfl rfl ?_ | refine zab 1 rfl rfl rfl ?_ | refine zab 2 rfl rfl rfl ?_ | refine zab 3 rfl rfl rfl ?_ | refine zab 4 rfl rfl rfl ?_ | refine zab 5 rfl rfl rfl ?_ | refine zah [] haw rfl rfl rfl sub_nil rfl ?_ | refine zce rfl ?_ | refine zao rfl ?_ | refine zan rfl ?_ | refine zbc rfl rfl (by omega) ?_ | refine zbd rfl rfl (by omega) ?_ | refine zbe rfl rfl (by omega) ?_ | refine zbf rfl rfl (by omega) ?_ | refine zbo rfl rfl ?_ | refine zbp rfl rfl ?_ | refine zay rfl rfl (by omega) ?_ | refine zaz rfl rfl ?_ | refine zbb rfl rfl ?_ | refine zba rfl rfl ?_ | refine zbu rfl ?_ | refine zbv rfl ?_ | refine zbw rfl rfl rfl ?_ | refine zae 0 rfl rfl rfl rfl rfl rfl rfl ?_ | refine zae 1 rfl rfl rfl rfl rfl rfl rfl ?_ | refine zae 2 rfl rfl rfl rfl rfl rfl rfl ?_ | refine zae 3 rfl rfl rfl rfl rfl rfl rfl ?_ | refine zae 4 rfl rfl rfl rfl rfl rfl rfl ?_ | refine zae 5 rfl rfl rfl rfl rfl rfl rfl ?_ | refine zas rfl rfl (by omega) ?_ | refine zat rfl rfl (by omega) ?_ | refine zaq (cs := [_, _]) rfl (fun nb => ?_) | refine zar (fun nb => ?_) | refine zcb rfl ?_ | refine reg_buildA rfl ?_ | refine zbz rfl (by omega) ?_ | refine zca rfl ?_) | refine zch ?_ | refine zci rfl ?_ | refine zcj rfl ?_)
      exact ret_tmp1 rfl ⟨rfl, rfl⟩
  · repeat (first | refine zck ?_ | refine zcl ?_ | refine zcm ?_ | refine zcn ?_)
    first | refine zcp (by kernel_rfl) ?_ | refine zcq PP_mixed (by kernel_rfl) (by kernel_rfl) ?_
    repeat' (refine zap rfl ?_; first | refine zaa 0 rfl rfl rfl ?_ | refine zaj rfl ?_ | refine zak rfl ?_ | refine zal rfl ?_ | refine zam rfl rfl (fun _ => ?_) (fun _ => ?_) | refine zan rfl ?_ | refine zan rfl ?_ | refine zaa 0 rfl rfl rfl ?_ | refine zaa 1 rfl rfl rfl ?_ | refine zaa 2 rfl rfl rfl ?_ | refine zaa 3 rfl rfl rfl ?_ | refine zaa 4 rfl rfl rfl ?_ | refine zaa 5 rfl rfl rfl ?_ | refine zab 0 rfl rfl rfl ?_ | refine zab 1 rfl rfl rfl ?_ | refine zab 2 rfl rfl rfl ?_ | refine zab 3 rfl rfl rfl ?_ | refine zab 4 rfl rfl rfl ?_ | refine zab 5 rfl rfl rfl ?_ | (refine zai [] hgr rfl rfl rfl sub_nil ?_; rintro v Γ ⟨rfl, B, rfl, hB⟩; cases B) | refine zce rfl ?_ | refine zce rfl ?_ | refine zao rfl ?_ | refine zan rfl ?_ | refine zbc rfl rfl (by omega) ?_ | refine zbd rfl rfl (by omega) ?_ | refine zbe rfl rfl (by omega) ?_ | refine zbf rfl rfl (by omega) ?_ | refine zbo rfl rfl ?_ | refine zbp rfl rfl ?_ | refine zay rfl rfl (by omega) ?_ | refine zaz rfl rfl ?_ | refine zbb rfl rfl ?_ | refine zba rfl rfl ?_ | refine zbu rfl ?_ | refine zbv rfl ?_ | refine zbw rfl rfl rfl ?_ | refine zae 0 rfl rfl rfl rfl rfl rfl rfl ?_ | refine zae 1 rfl rfl rfl rfl rfl rfl rfl ?_ | refine zae 2 rfl rfl rfl rfl rfl rfl rfl ?_ | refine zae 3 rfl rfl rfl rfl rfl rfl rfl ?_ | refine zae 4 rfl rfl rfl rfl rfl rfl rfl ?_ | refine zae 5 rfl rfl rfl rfl rfl rfl rfl ?_ | refine zas rfl rfl (by omega) ?_ | refine zat rfl rfl (by omega) ?_ | refine zaq (cs := [_, _]) rfl (fun nb => ?_) | refine zar (fun nb => ?_) | refine zcb rfl ?_ | refine reg_buildA rfl ?_ | refine zbz rfl (by omega) ?_ | refine zca rfl ?_)
    all_goals refine zch ?_
    all_goals repeat (first | refine zck ?_ | refine zcl ?_ | refine zcm ?_ | refine zcn ?_)
    · refine zcj rfl ?_
      have hcost := hB rfl
      obtain ⟨o, l, hol⟩ : ∃ o l, p.opers = o :: l := by
        cases hq : p.opers with
        | nil => rw [hq] at hn; exact absurd rfl hn
        | cons o l => exact ⟨o, l, rfl⟩
      obtain ⟨sm1, sm2⟩ := small_of hcost
      have hof := of_spec w0 hk [] _ p o.name hp0 sm1 (fun x hx => Nat.le_trans (sm2 x hx) (by omega))
      obtain ⟨cl, hcl, hos⟩ := id h2
      have hcn := hos.len
      obtain ⟨hone, h3l⟩ := hos.flat
      rw [hol] at hos
      obtain ⟨c0, cl', rfl, ⟨vp, vb, rfl, hpar, hbody⟩, hos'⟩ := hos
      obtain ⟨b, off, c, T, fr, rfl, hb1, _, hb4⟩ := hcl.cells (i := 0) (x := [.string o.name, vp, vb]) rfl
      obtain ⟨ab, cb, rfl, _⟩ := hbody.len
      obtain ⟨clb, hclb, hss⟩ := id hbody
      have hbn := hss.len
      obtain ⟨honeb, h11⟩ := hss.flat
      have n0 : 0 < p.opers.length := by omega
      have n400 : p.opers.length ≤ 400 := by have := PO.costL_len p.opers; omega
      have nb400 : o.body.length ≤ 400 := Nat.le_trans (PS.sizeL_len o.body) (sm2 o (by rw [hol]; exact .head _))
      have rN : ∀ q, q = off + 0 * 3 + 0 → rd false 1 c.toList q = some (.string o.name) := fun q hq => hb4 0 _ rfl q hq
      have rB : ∀ q, q = off + 0 * 3 + 2 → rd false 1 c.toList q = some (.slice ab o.body.length cb) := fun q hq => hb4 2 _ rfl q hq
      obtain ⟨⟨e, w⟩, hE⟩ : ∃ E, ofP p o.name = E := ⟨_, rfl⟩
      rw [hE] at hof
      repeat (first | refine zck ?_ | refine zcl ?_ | refine zcm ?_ | refine zcn ?_)
      first | refine zcp (by kernel_rfl) ?_ | refine zcq PP_mixed (by kernel_rfl) (by kernel_rfl) ?_
      repeat' (refine zap rfl ?_; first | refine zaa 0 rfl rfl rfl ?_ | refine zad rfl (fun hF Γ w h1 h2 => hb1 hF Γ w (fun p hp => by cases hp) h2) (rN _ (by omega)) ?_ | refine zar (fun t5 => ?_) | refine zaj rfl ?_ | refine zak rfl ?_ | refine zal rfl ?_ | refine zam rfl rfl (fun _ => ?_) (fun _ => ?_) | refine zan rfl ?_ | refine zan rfl ?_ | refine zaa 0 rfl rfl rfl ?_ | refine zaa 1 rfl rfl rfl ?_ | refine zaa 2 rfl rfl rfl ?_ | refine zaa 3 rfl rfl rfl ?_ | refine zaa 4 rfl rfl rfl ?_ | refine zaa 5 rfl rfl rfl ?_ | refine zab 0 rfl rfl rfl ?_ | refine zab 1 rfl rfl rfl ?_ | refine zab 2 rfl rfl rfl ?_ | refine zab 3 rfl rfl rfl ?_ | refine zab 4 rfl rfl rfl ?_ | refine zab 5 rfl rfl rfl ?_ | (refine zai [] hof rfl rfl rfl sub_nil ?_; rintro v Γ ⟨q, rfl, rfl⟩) | refine zce rfl ?_ | refine zao rfl ?_ | refine zan rfl ?_ | refine zbc rfl rfl (by omega) ?_ | refine zbd rfl rfl (by omega) ?_ | refine zbe rfl rfl (by omega) ?_ | refine zbf rfl rfl (by omega) ?_ | refine zbo rfl rfl ?_ | refine zbp rfl rfl ?_ | refine zay rfl rfl (by omega) ?_ | refine zaz rfl rfl ?_ | refine zbb rfl rfl ?_ | refine zba rfl rfl ?_ | refine zbu rfl ?_ | refine zbv rfl ?_ | refine zbw rfl rfl rfl ?_ | refine zae 0 rfl rfl rfl rfl rfl rfl rfl ?_ | refine zae 1 rfl rfl rfl rfl rfl rfl rfl ?_ | refine zae 2 rfl rfl rfl rfl rfl rfl rfl ?_ | refine zae 3 rfl rfl rfl rfl rfl rfl rfl ?_ | refine zae 4 rfl rfl rfl rfl rfl rfl rfl ?_ | refine zae 5 rfl rfl rfl rfl rfl rfl rfl ?_ | refine zas rfl rfl (by omega) ?_ | refine zat rfl rfl (by omega) ?_ | refine zaq (cs := [_, _]) rfl (fun nb => ?_) | refine zar (fun nb => ?_) | refine zcb rfl ?_ | refine reg_buildA rfl ?_ | refine zbz rfl (by omega) ?_ | refine zca rfl ?_)
      all_goals refine zch ?_
      all_goals repeat (first | refine zck ?_ | refine zcl ?_ | refine zcm ?_ | refine zcn ?_)
      by_cases hf : w = 0
      · subst hf
        have hw0 : (ofP p o.name).2 = 0 := by rw [hE]
        have hr := ofP_twice hol hw0
        obtain ⟨kI, hkI⟩ : ∃ kI, kI = (k8 : Int).tmod 65 := ⟨_, rfl⟩
        have hkI0 : 0 ≤ kI ∧ kI ≤ 64 := by
          rw [Int.tmod_eq_emod_of_nonneg (by omega)] at hkI
          omega
        have hrep := ofP_rep (k := kI) hol hw0 hkI0.1 hkI0.2
        rw [hE] at hr hrep
        refine run_share [1] rfl ?_
        refine run_shareB [0] rfl (fun bl hbl => ?_)
        repeat (first | refine zck ?_ | refine zcl ?_ | refine zcm ?_ | refine zcn ?_)
        first | refine zcp (by kernel_rfl) ?_ | refine zcq PP_mixed (by kernel_rfl) (by kernel_rfl) ?_
        repeat' (refine zap rfl ?_; first | refine zaj rfl ?_ | refine zak rfl ?_ | refine zal rfl ?_ | refine zam rfl rfl (fun _ => ?_) (fun _ => ?_) | refine zan rfl ?_ | refine zan rfl ?_ | refine zaa 0 rfl rfl rfl ?_ | refine zaa 1 rfl rfl rfl ?_ | refine zaa 2 rfl rfl rfl ?_ | refine zaa 3 rfl rfl rfl ?_ | refine zaa 4 rfl rfl rfl ?_ | refine zaa 5 rfl rfl rfl ?_ | refine zab 0 rfl rfl rfl ?_ | refine zab 1 rfl rfl rfl ?_ | refine zab 2 rfl rfl rfl ?_ | refine zab 3 rfl rfl rfl ?_ | refine zab 4 rfl rfl rfl ?_ | refine zab 5 rfl rfl rfl ?_ | refine zce rfl ?_ | refine zao rfl ?_ | refine zan rfl ?_ | refine zbc rfl rfl (by omega) ?_ | refine zbd rfl rfl (by omega) ?_ | refine zbe rfl rfl (by omega) ?_ | refine zbf rfl rfl (by omega) ?_ | refine zbo rfl rfl ?_ | refine zbp rfl rfl ?_ | refine zay rfl rfl (by omega) ?_ | refine zaz rfl rfl ?_ | refine zbb rfl rfl ?_ | refine zba rfl rfl ?_ | refine zbu rfl ?_ | refine zbv rfl ?_ | refine zbw rfl rfl rfl ?_ | refine zae 0 rfl rfl rfl rfl rfl rfl rfl ?_ | refine zae 1 rfl rfl rfl rfl rfl rfl rfl ?_ | refine zae 2 rfl rfl rfl rfl rfl rfl rfl ?_ | refine zae 3 rfl rfl rfl rfl rfl rfl rfl ?_ | refine zae 4 rfl rfl rfl rfl rfl rfl rfl ?_ | refine zae 5 rfl rfl rfl rfl rfl rfl rfl ?_ | refine zas rfl rfl (by omega) ?_ | refine zat rfl rfl (by omega) ?_ | refine zaq (cs := [_, _]) rfl (fun nb => ?_) | refine zar (fun nb => ?_) | refine zcb rfl ?_ | refine reg_buildA rfl ?_ | refine zbz rfl (by omega) ?_ | refine zca rfl ?_)
        all_goals refine zch ?_
        all_goals repeat (first | refine zck ?_ | refine zcl ?_ | refine zcm ?_ | refine zcn ?_)
        refine zcj rfl ?_
        repeat (first | refine zck ?_ | refine zcl ?_ | refine zcm ?_ | refine zcn ?_)
        first | refine zcp (by kernel_rfl) ?_ | refine zcq PP_mixed (by kernel_rfl) (by kernel_rfl) ?_
        repeat' (refine zap rfl ?_; first | refine zaa 1 rfl rfl rfl ?_ | refine zar (fun t7 => ?_) | refine zaj rfl ?_ | refine zak rfl ?_ | refine zal rfl ?_ | refine zam rfl rfl (fun _ => ?_) (fun _ => ?_) | refine zan rfl ?_ | refine zan rfl ?_ | refine zaa 0 rfl rfl rfl ?_ | refine zaa 1 rfl rfl rfl ?_ | refine zaa 2 rfl rfl rfl ?_ | refine zaa 3 rfl rfl rfl ?_ | refine zaa 4 rfl rfl rfl ?_ | refine zaa 5 rfl rfl rfl ?_ | refine zab 0 rfl rfl rfl ?_ | refine zab 1 rfl rfl rfl ?_ | refine zab 2 rfl rfl rfl ?_ | refine zab 3 rfl rfl rfl ?_ | refine zab 4 rfl rfl rfl ?_ | refine zab 5 rfl rfl rfl ?_ | refine zce rfl ?_ | refine zao rfl ?_ | refine zan rfl ?_ | refine zbc rfl rfl (by omega) ?_ | refine zbd rfl rfl (by omega) ?_ | refine zbe rfl rfl (by omega) ?_ | refine zbf rfl rfl (by omega) ?_ | refine zbo rfl rfl ?_ | refine zbp rfl rfl ?_ | refine zay rfl rfl (by omega) ?_ | refine zaz rfl rfl ?_ | refine zbb rfl rfl ?_ | refine zba rfl rfl ?_ | refine zbu rfl ?_ | refine zbv rfl ?_ | refine zbw rfl rfl rfl ?_ | refine zae 0 rfl rfl rfl rfl rfl rfl rfl ?_ | refine zae 1 rfl rfl rfl rfl rfl rfl rfl ?_ | refine zae 2 rfl rfl rfl rfl rfl rfl rfl ?_ | refine zae 3 rfl rfl rfl rfl rfl rfl rfl ?_ | refine zae 4 rfl rfl rfl rfl rfl rfl rfl ?_ | refine zae 5 rfl rfl rfl rfl rfl rfl rfl ?_ | refine zas rfl rfl (by omega) ?_ | refine zat rfl rfl (by omega) ?_ | refine zaq (cs := [_, _]) rfl (fun nb => ?_) | refine zar (fun nb => ?_) | refine zcb rfl ?_ | refine reg_buildA rfl ?_ | refine zbz rfl (by omega) ?_ | refine zca rfl ?_)
        all_goals refine zch ?_
        all_goals repeat (first | refine zck ?_ | refine zcl ?_ | refine zcm ?_ | refine zcn ?_)
        rename_i t7a
        repeat (first | refine zck ?_ | refine zcl ?_ | refine zcm ?_ | refine zcn ?_)
        first | refine zcp (by kernel_rfl) ?_ | refine zcq PP_mixed (by kernel_rfl) (by kernel_rfl) ?_
        repeat' (refine zap rfl ?_; first | refine reg_buildSlice rfl rfl rfl rfl rfl rfl (fun nb => ?_) | refine zaa 1 rfl rfl rfl ?_ | refine zae 0 rfl rfl rfl rfl rfl rfl rfl ?_ | refine zaj rfl ?_ | refine zak rfl ?_ | refine zal rfl ?_ | refine zam rfl rfl (fun _ => ?_) (fun _ => ?_) | refine zan rfl ?_ | refine zan rfl ?_ | refine zaa 0 rfl rfl rfl ?_ | refine zaa 1 rfl rfl rfl ?_ | refine zaa 2 rfl rfl rfl ?_ | refine zaa 3 rfl rfl rfl ?_ | refine zaa 4 rfl rfl rfl ?_ | refine zaa 5 rfl rfl rfl ?_ | refine zab 0 rfl rfl rfl ?_ | refine zab 1 rfl rfl rfl ?_ | refine zab 2 rfl rfl rfl ?_ | refine zab 3 rfl rfl rfl ?_ | refine zab 4 rfl rfl rfl ?_ | refine zab 5 rfl rfl rfl ?_ | (refine reg_own 2 rfl rfl (len := 0) (cap := 0) (sz := 3) ⟨rfl, Nat.le_refl _, Nat.le_refl _⟩ rfl ?_; refine reg_append_rdE 2 rfl rfl (hcl.mono sub_nil) (by decide) hone rfl rfl (by omega) (fun _ _ => rfl) (fun aq cq => ?_)) | refine zce rfl ?_ | refine zao rfl ?_ | refine zan rfl ?_ | refine zbc rfl rfl (by omega) ?_ | refine zbd rfl rfl (by omega) ?_ | refine zbe rfl rfl (by omega) ?_ | refine zbf rfl rfl (by omega) ?_ | refine zbo rfl rfl ?_ | refine zbp rfl rfl ?_ | refine zay rfl rfl (by omega) ?_ | refine zaz rfl rfl ?_ | refine zbb rfl rfl ?_ | refine zba rfl rfl ?_ | refine zbu rfl ?_ | refine zbv rfl ?_ | refine zbw rfl rfl rfl ?_ | refine zae 0 rfl rfl rfl rfl rfl rfl rfl ?_ | refine zae 1 rfl rfl rfl rfl rfl rfl rfl ?_ | refine zae 2 rfl rfl rfl rfl rfl rfl rfl ?_ | refine zae 3 rfl rfl rfl rfl rfl rfl rfl ?_ | refine zae 4 rfl rfl rfl rfl rfl rfl rfl ?_ | refine zae 5 rfl rfl rfl rfl rfl rfl rfl ?_ | refine zas rfl rfl (by omega) ?_ | refine zat rfl rfl (by omega) ?_ | refine zaq (cs := [_, _]) rfl (fun nb => ?_) | refine zar (fun nb => ?_) | refine zcb rfl ?_ | refine reg_buildA rfl ?_ | refine zbz rfl (by omega) ?_ | refine zca rfl ?_)
        all_goals refine zch ?_
        all_goals repeat (first | refine zck ?_ | refine zcl ?_ | refine zcm ?_ | refine zcn ?_)
        repeat (first | refine zck ?_ | refine zcl ?_ | refine zcm ?_ | refine zcn ?_)
        first | refine zcp (by kernel_rfl) ?_ | refine zcq PP_mixed (by kernel_rfl) (by kernel_rfl) ?_
        repeat' (refine zap rfl ?_; first | refine reg_buildSlice rfl rfl rfl rfl rfl rfl (fun nb => ?_) | refine zaa 1 rfl rfl rfl ?_ | refine zae 1 rfl rfl rfl rfl rfl rfl rfl ?_ | refine zaj rfl ?_ | refine zak rfl ?_ | refine zal rfl ?_ | refine zam rfl rfl (fun _ => ?_) (fun _ => ?_) | refine zan rfl ?_ | refine zan rfl ?_ | refine zaa 0 rfl rfl rfl ?_ | refine zaa 1 rfl rfl rfl ?_ | refine zaa 2 rfl rfl rfl ?_ | refine zaa 3 rfl rfl rfl ?_ | refine zaa 4 rfl rfl rfl ?_ | refine zaa 5 rfl rfl rfl ?_ | refine zab 0 rfl rfl rfl ?_ | refine zab 1 rfl rfl rfl ?_ | refine zab 2 rfl rfl rfl ?_ | refine zab 3 rfl rfl rfl ?_ | refine zab 4 rfl rfl rfl ?_ | refine zab 5 rfl rfl rfl ?_ | (refine reg_own 3 rfl rfl (len := 0) (cap := 0) (sz := 3) ⟨rfl, Nat.le_refl _, Nat.le_refl _⟩ rfl ?_; refine reg_append_rdE 3 rfl rfl (hcl.mono sub_nil) (by decide) hone rfl rfl (by omega) (fun _ _ => rfl) (fun at_ ct => ?_)) | refine zce rfl ?_ | refine zao rfl ?_ | refine zan rfl ?_ | refine zbc rfl rfl (by omega) ?_ | refine zbd rfl rfl (by omega) ?_ | refine zbe rfl rfl (by omega) ?_ | refine zbf rfl rfl (by omega) ?_ | refine zbo rfl rfl ?_ | refine zbp rfl rfl ?_ | refine zay rfl rfl (by omega) ?_ | refine zaz rfl rfl ?_ | refine zbb rfl rfl ?_ | refine zba rfl rfl ?_ | refine zbu rfl ?_ | refine zbv rfl ?_ | refine zbw rfl rfl rfl ?_ | refine zae 0 rfl rfl rfl rfl rfl rfl rfl ?_ | refine zae 1 rfl rfl rfl rfl rfl rfl rfl ?_ | refine zae 2 rfl rfl rfl rfl rfl rfl rfl ?_ | refine zae 3 rfl rfl rfl rfl rfl rfl rfl ?_ | refine zae 4 rfl rfl rfl rfl rfl rfl rfl ?_ | refine zae 5 rfl rfl rfl rfl rfl rfl rfl ?_ | refine zas rfl rfl (by omega) ?_ | refine zat rfl rfl (by omega) ?_ | refine zaq (cs := [_, _]) rfl (fun nb => ?_) | refine zar (fun nb => ?_) | refine zcb rfl ?_ | refine reg_buildA rfl ?_ | refine zbz rfl (by omega) ?_ | refine zca rfl ?_)
        all_goals refine zch ?_
        all_goals repeat (first | refine zck ?_ | refine zcl ?_ | refine zcm ?_ | refine zcn ?_)
        refine run_sl_cases 2 rfl (fun _ h0 => absurd h0 (by omega)) (fun bq hbq _ _ => ?_)
        refine run_sl_cases 3 rfl (fun _ h0 => absurd h0 (by omega)) (fun bt hbt _ _ => ?_)
        subst hbq; subst hbt
        repeat (first | refine zck ?_ | refine zcl ?_ | refine zcm ?_ | refine zcn ?_)
        first | refine zcp (by kernel_rfl) ?_ | refine zcq PP_mixed (by kernel_rfl) (by kernel_rfl) ?_
        repeat' (refine zap rfl ?_; first | refine zaa 1 rfl rfl rfl ?_ | refine zad rfl (fun hF Γ w h1 h2 => hb1 hF Γ w (fun p hp => by cases hp) h2) (rB _ (by omega)) ?_ | refine zaj rfl ?_ | refine zak rfl ?_ | refine zal rfl ?_ | refine zam rfl rfl (fun _ => ?_) (fun _ => ?_) | refine zan rfl ?_ | refine zan rfl ?_ | refine zaa 0 rfl rfl rfl ?_ | refine zaa 1 rfl rfl rfl ?_ | refine zaa 2 rfl rfl rfl ?_ | refine zaa 3 rfl rfl rfl ?_ | refine zaa 4 rfl rfl rfl ?_ | refine zaa 5 rfl rfl rfl ?_ | refine zab 0 rfl rfl rfl ?_ | refine zab 1 rfl rfl rfl ?_ | refine zab 2 rfl rfl rfl ?_ | refine zab 3 rfl rfl rfl ?_ | refine zab 4 rfl rfl rfl ?_ | refine zab 5 rfl rfl rfl ?_ | refine zce rfl ?_ | refine zao rfl ?_ | refine zan rfl ?_ | refine zbc rfl rfl (by omega) ?_ | refine zbd rfl rfl (by omega) ?_ | refine zbe rfl rfl (by omega) ?_ | refine zbf rfl rfl (by omega) ?_ | refine zbo rfl rfl ?_ | refine zbp rfl rfl ?_ | refine zay rfl rfl (by omega) ?_ | refine zaz rfl rfl ?_ | refine zbb rfl rfl ?_ | refine zba rfl rfl ?_ | refine zbu rfl ?_ | refine zbv rfl ?_ | refine zbw rfl rfl rfl ?_ | refine zae 0 rfl rfl rfl rfl rfl rfl rfl ?_ | refine zae 1 rfl rfl rfl rfl rfl rfl rfl ?_ | refine zae 2 rfl rfl rfl rfl rfl rfl rfl ?_ | refine zae 3 rfl rfl rfl rfl rfl rfl rfl ?_ | refine zae 4 rfl rfl rfl rfl rfl rfl rfl ?_ | refine zae 5 rfl rfl rfl rfl rfl rfl rfl ?_ | refine zas rfl rfl (by omega) ?_ | refine zat rfl rfl (by omega) ?_ | refine zaq (cs := [_, _]) rfl (fun nb => ?_) | refine zar (fun nb => ?_) | refine zcb rfl ?_ | refine reg_buildA rfl ?_ | refine zbz rfl (by omega) ?_ | refine zca rfl ?_)
        all_goals refine zch ?_
        all_goals repeat (first | refine zck ?_ | refine zcl ?_ | refine zcm ?_ | refine zcn ?_)
        repeat (first | refine zck ?_ | refine zcl ?_ | refine zcm ?_ | refine zcn ?_)
        first | refine zcp (by kernel_rfl) ?_ | refine zcq PP_mixed (by kernel_rfl) (by kernel_rfl) ?_
        repeat' (refine zap rfl ?_; first | (refine reg_rem rfl rfl (by decide) ?_; rw [← hkI]) | refine zaj rfl ?_ | refine zak rfl ?_ | refine zal rfl ?_ | refine zam rfl rfl (fun _ => ?_) (fun _ => ?_) | refine zan rfl ?_ | refine zan rfl ?_ | refine zaa 0 rfl rfl rfl ?_ | refine zaa 1 rfl rfl rfl ?_ | refine zaa 2 rfl rfl rfl ?_ | refine zaa 3 rfl rfl rfl ?_ | refine zaa 4 rfl rfl rfl ?_ | refine zaa 5 rfl rfl rfl ?_ | refine zab 0 rfl rfl rfl ?_ | refine zab 1 rfl rfl rfl ?_ | refine zab 2 rfl rfl rfl ?_ | refine zab 3 rfl rfl rfl ?_ | refine zab 4 rfl rfl rfl ?_ | refine zab 5 rfl rfl rfl ?_ | refine zce rfl ?_ | refine zao rfl ?_ | refine zan rfl ?_ | refine zbc rfl rfl (by omega) ?_ | refine zbd rfl rfl (by omega) ?_ | refine zbe rfl rfl (by omega) ?_ | refine zbf rfl rfl (by omega) ?_ | refine zbo rfl rfl ?_ | refine zbp rfl rfl ?_ | refine zay rfl rfl (by omega) ?_ | refine zaz rfl rfl ?_ | refine zbb rfl rfl ?_ | refine zba rfl rfl ?_ | refine zbu rfl ?_ | refine zbv rfl ?_ | refine zbw rfl rfl rfl ?_ | refine zae 0 rfl rfl rfl rfl rfl rfl rfl ?_ | refine zae 1 rfl rfl rfl rfl rfl rfl rfl ?_ | refine zae 2 rfl rfl rfl rfl rfl rfl rfl ?_ | refine zae 3 rfl rfl rfl rfl rfl rfl rfl ?_ | refine zae 4 rfl rfl rfl rfl rfl rfl rfl ?_ | refine zae 5 rfl rfl rfl rfl rfl rfl rfl ?_ | refine zas rfl rfl (by omega) ?_ | refine zat rfl rfl (by omega) ?_ | refine zaq (cs := [_, _]) rfl (fun nb => ?_) | refine zar (fun nb => ?_) | refine zcb rfl ?_ | refine reg_buildA rfl ?_ | refine zbz rfl (by omega) ?_ | refine zca rfl ?_)
        all_goals refine zch ?_
        all_goals repeat (first | refine zck ?_ | refine zcl ?_ | refine zcm ?_ | refine zcn ?_)
        repeat (first | refine zck ?_ | refine zcl ?_ | refine zcm ?_ | refine zcn ?_)
        first | refine zcp (by kernel_rfl) ?_ | refine zcq PP_mixed (by kernel_rfl) (by kernel_rfl) ?_
        repeat' (refine zap rfl ?_; first | refine reg_buildSlice rfl rfl rfl rfl rfl rfl (fun sb => ?_) | refine zaf 2 rfl rfl rfl rfl rfl rfl rfl ?_ | refine zaj rfl ?_ | refine zak rfl ?_ | refine zal rfl ?_ | refine zam rfl rfl (fun _ => ?_) (fun _ => ?_) | refine zan rfl ?_ | refine zan rfl ?_ | refine zaa 0 rfl rfl rfl ?_ | refine zaa 1 rfl rfl rfl ?_ | refine zaa 2 rfl rfl rfl ?_ | refine zaa 3 rfl rfl rfl ?_ | refine zaa 4 rfl rfl rfl ?_ | refine zaa 5 rfl rfl rfl ?_ | refine zab 0 rfl rfl rfl ?_ | refine zab 1 rfl rfl rfl ?_ | refine zab 2 rfl rfl rfl ?_ | refine zab 3 rfl rfl rfl ?_ | refine zab 4 rfl rfl rfl ?_ | refine zab 5 rfl rfl rfl ?_ | refine zce rfl ?_ | refine zao rfl ?_ | refine zan rfl ?_ | refine zbc rfl rfl (by omega) ?_ | refine zbd rfl rfl (by omega) ?_ | refine zbe rfl rfl (by omega) ?_ | refine zbf rfl rfl (by omega) ?_ | refine zbo rfl rfl ?_ | refine zbp rfl rfl ?_ | refine zay rfl rfl (by omega) ?_ | refine zaz rfl rfl ?_ | refine zbb rfl rfl ?_ | refine zba rfl rfl ?_ | refine zbu rfl ?_ | refine zbv rfl ?_ | refine zbw rfl rfl rfl ?_ | refine zae 0 rfl rfl rfl rfl rfl rfl rfl ?_ | refine zae 1 rfl rfl rfl rfl rfl rfl rfl ?_ | refine zae 2 rfl rfl rfl rfl rfl rfl rfl ?_ | refine zae 3 rfl rfl rfl rfl rfl rfl rfl ?_ | refine zae 4 rfl rfl rfl rfl rfl rfl rfl ?_ | refine zae 5 rfl rfl rfl rfl rfl rfl rfl ?_ | refine zas rfl rfl (by omega) ?_ | refine zat rfl rfl (by omega) ?_ | refine zaq (cs := [_, _]) rfl (fun nb => ?_) | refine zar (fun nb => ?_) | refine zcb rfl ?_ | refine reg_buildA rfl ?_ | refine zbz rfl (by omega) ?_ | refine zca rfl ?_)
        all_goals refine zch ?_
        all_goals repeat (first | refine zck ?_ | refine zcl ?_ | refine zcm ?_ | refine zcn ?_)
        refine run_share [0] rfl ?_
        refine run_share [0] rfl ?_
        refine run_share [2] rfl ?_
        refine run_slR (fun x : List Value => x) 0 (l := [.string o.name, vp, .slice (some ⟨sb, 0, none⟩) 1 1] :: cl') rfl rfl (fun x hx => ?_) (Nat.zero_add _).symm rfl ?_
        · rcases List.mem_cons.1 hx with rfl | hx
          · rfl
          · exact h3l x (.tail _ hx)
        refine run_shareB [0] rfl (fun zq hzq => ?_)
        repeat (first | refine zck ?_ | refine zcl ?_ | refine zcm ?_ | refine zcn ?_)
        first | refine zcp (by kernel_rfl) ?_ | refine zcq PP_mixed (by kernel_rfl) (by kernel_rfl) ?_
        repeat' (refine zap rfl ?_; first | refine reg_buildSlice rfl rfl rfl rfl rfl rfl (fun nb => ?_) | refine zaa 1 rfl rfl rfl ?_ | refine zaa 2 rfl rfl rfl ?_ | refine zaf 0 rfl rfl rfl rfl rfl rfl rfl ?_ | refine zaj rfl ?_ | refine zak rfl ?_ | refine zal rfl ?_ | refine zam rfl rfl (fun _ => ?_) (fun _ => ?_) | refine zan rfl ?_ | refine zan rfl ?_ | refine zaa 0 rfl rfl rfl ?_ | refine zaa 1 rfl rfl rfl ?_ | refine zaa 2 rfl rfl rfl ?_ | refine zaa 3 rfl rfl rfl ?_ | refine zaa 4 rfl rfl rfl ?_ | refine zaa 5 rfl rfl rfl ?_ | refine zab 0 rfl rfl rfl ?_ | refine zab 1 rfl rfl rfl ?_ | refine zab 2 rfl rfl rfl ?_ | refine zab 3 rfl rfl rfl ?_ | refine zab 4 rfl rfl rfl ?_ | refine zab 5 rfl rfl rfl ?_ | (refine reg_own 1 rfl rfl (len := 0) (cap := 0) (sz := 11) ⟨rfl, Nat.le_refl _, Nat.le_refl _⟩ rfl ?_; refine reg_append_rdE 1 rfl rfl (hclb.mono sub_nil) (by decide) honeb rfl rfl (by omega) (fun _ _ => rfl) (fun ab1 cb1 => ?_)) | refine reg_append_rdE 1 rfl rfl (hclb.mono sub_nil) (by decide) honeb rfl rfl (by omega) (fun _ _ => rfl) (fun ab2 cb2 => ?_) | refine zce rfl ?_ | refine zao rfl ?_ | refine zan rfl ?_ | refine zbc rfl rfl (by omega) ?_ | refine zbd rfl rfl (by omega) ?_ | refine zbe rfl rfl (by omega) ?_ | refine zbf rfl rfl (by omega) ?_ | refine zbo rfl rfl ?_ | refine zbp rfl rfl ?_ | refine zay rfl rfl (by omega) ?_ | refine zaz rfl rfl ?_ | refine zbb rfl rfl ?_ | refine zba rfl rfl ?_ | refine zbu rfl ?_ | refine zbv rfl ?_ | refine zbw rfl rfl rfl ?_ | refine zae 0 rfl rfl rfl rfl rfl rfl rfl ?_ | refine zae 1 rfl rfl rfl rfl rfl rfl rfl ?_ | refine zae 2 rfl rfl rfl rfl rfl rfl rfl ?_ | refine zae 3 rfl rfl rfl rfl rfl rfl rfl ?_ | refine zae 4 rfl rfl rfl rfl rfl rfl rfl ?_ | refine zae 5 rfl rfl rfl rfl rfl rfl rfl ?_ | refine zas rfl rfl (by omega) ?_ | refine zat rfl rfl (by omega) ?_ | refine zaq (cs := [_, _]) rfl (fun nb => ?_) | refine zar (fun nb => ?_) | refine zcb rfl ?_ | refine reg_buildA rfl ?_ | refine zbz rfl (by omega) ?_ | refine zca rfl ?_)
        all_goals refine zch ?_
        all_goals repeat (first | refine zck ?_ | refine zcl ?_ | refine zcm ?_ | refine zcn ?_)
        refine run_slR (fun x : List Value => x) 1 (l := clb ++ clb) rfl (show ([] ++ clb.flatMap fun x => x) ++ (clb.flatMap fun x => x) = _ from by rw [List.nil_append, List.flatMap_append]) (fun x hx => h11 x ((List.mem_append.1 hx).elim id id)) (by rw [List.length_append]; omega) rfl ?_
        refine run_shareB [1] rfl (fun zb hzb => ?_)
        refine run_slR (fun x : List Value => x) 0 (l := [.string o.name, vp, .slice ab2 (0 + clb.length + clb.length) cb2] :: cl') rfl rfl (fun x hx => ?_) (Nat.zero_add _).symm rfl ?_
        · rcases List.mem_cons.1 hx with rfl | hx
          · rfl
          · exact h3l x (.tail _ hx)
        refine run_shareB [0] rfl (fun zt hzt => ?_)
        obtain ⟨_, _, k3, k4⟩ := ofP_ok hol hw0
        rw [hE] at k4
        have he : e.sm 400 := by
          have h := stmtEs_sm p.stores o.body zeroE 0 0 (zeroE_sm 0)
          rw [← (Prod.mk.inj k4).1] at h
          exact h.mono (by have := sm2 o (by rw [hol]; exact .head _); omega)
        have hsz := sm2 o (by rw [hol]; exact .head _)
        rw [hol] at hcost
        have hPq : RdP w0 ((sb, Obj.cells (List.toArray (psC (repS kI o.body) (.slice none 0 0) (.slice none 0 0) (.slice ab o.body.length cb) (.slice none 0 0) ++ [])) 43 (0, 0)) :: zq) (.agg #[.slice a1 p.stores.length c1, .slice (some ⟨bq, 0, none⟩) (0 + ([Value.string o.name, vp, .slice ab o.body.length cb] :: cl').length) cq]) ⟨p.stores, o.put [repS kI o.body] :: l⟩ :=
          ⟨_, _, rfl, h1.mono sub_nil, _, RdSl.mono hzq (fun p hp => .tail _ hp), _, _, rfl, ⟨_, _, rfl, hpar.mono sub_nil, RdSt.one (RdS.of (s := repS kI o.body) RdEl.nil0 RdEl.nil0 (hbody.mono sub_nil) RdSt.nil0) rfl (.head _)⟩, hos'.mono sub_nil⟩
        have hPt : RdP w0 (zb ++ zt) (.agg #[.slice a1 p.stores.length c1, .slice (some ⟨bt, 0, none⟩) (0 + ([Value.string o.name, vp, .slice ab o.body.length cb] :: cl').length) ct]) ⟨p.stores, o.put (o.body ++ o.body) :: l⟩ :=
          ⟨_, _, rfl, h1.mono sub_nil, _, RdSl.mono hzt (fun p hp => List.mem_append_right _ hp), _, _, rfl, ⟨_, _, rfl, hpar.mono sub_nil, _, RdSl.mono hzb (fun p hp => List.mem_append_left _ hp), (hss.mono sub_nil).app (hss.mono sub_nil)⟩, hos'.mono sub_nil⟩
        obtain ⟨u1, u2⟩ := small_put (st := p.stores) (b := [repS kI o.body]) hcost (by rw [repS_size]; omega)
        obtain ⟨u3, u4⟩ := small_put (st := p.stores) (b := o.body ++ o.body) hcost (by rw [sizeL_app]; omega)
        have ofq := of_spec w0 hk _ _ _ o.name hPq u1 u2
        have oft := of_spec w0 hk _ _ _ o.name hPt u3 u4
        rw [hr] at oft
        have kt := times_sp w0 bl q e kI hbl (he.mono (by omega)) (by omega)
        have kj := join_sp w0 bl q q e e hbl hbl (he.mono (by omega)) (he.mono (by omega))
        have st := timesE_sm kI he
        have sj := joinE_sm he he
        rcases hrep with g | g
        all_goals rw [g] at ofq
        · repeat (first | refine zck ?_ | refine zcl ?_ | refine zcm ?_ | refine zcn ?_)
          first | refine zcp (by kernel_rfl) ?_ | refine zcq PP_mixed (by kernel_rfl) (by kernel_rfl) ?_
          repeat' (refine zap rfl ?_; first | refine zaa 0 rfl rfl rfl ?_ | refine zaa 1 rfl rfl rfl ?_ | refine zaa 2 rfl rfl rfl ?_ | refine zaa 3 rfl rfl rfl ?_ | refine zaa 4 rfl rfl rfl ?_ | refine zaa 5 rfl rfl rfl ?_ | refine zaa 6 rfl rfl rfl ?_ | refine zad rfl (fun hF Γ w h1 h2 => hb1 hF Γ w (fun p hp => by cases hp) h2) (rN _ (by omega)) ?_ | refine zar (fun t11 => ?_) | refine zaj rfl ?_ | refine zak rfl ?_ | refine zal rfl ?_ | refine zam rfl rfl (fun _ => ?_) (fun _ => ?_) | refine zan rfl ?_ | refine zan rfl ?_ | refine zaa 0 rfl rfl rfl ?_ | refine zaa 1 rfl rfl rfl ?_ | refine zaa 2 rfl rfl rfl ?_ | refine zaa 3 rfl rfl rfl ?_ | refine zaa 4 rfl rfl rfl ?_ | refine zaa 5 rfl rfl rfl ?_ | refine zab 0 rfl rfl rfl ?_ | refine zab 1 rfl rfl rfl ?_ | refine zab 2 rfl rfl rfl ?_ | refine zab 3 rfl rfl rfl ?_ | refine zab 4 rfl rfl rfl ?_ | refine zab 5 rfl rfl rfl ?_ | (refine zai [] ofq rfl rfl rfl (fun p hp => by rcases List.mem_cons.1 hp with rfl | hp; exact List.mem_append_left _ (List.mem_append_left _ (List.mem_append_left _ (.head _))); simp [hp]) ?_; rintro v Γ ⟨qx, rfl, rfl⟩) | refine zce rfl ?_ | refine zao rfl ?_ | refine zan rfl ?_ | refine zbc rfl rfl (by omega) ?_ | refine zbd rfl rfl (by omega) ?_ | refine zbe rfl rfl (by omega) ?_ | refine zbf rfl rfl (by omega) ?_ | refine zbo rfl rfl ?_ | refine zbp rfl rfl ?_ | refine zay rfl rfl (by omega) ?_ | refine zaz rfl rfl ?_ | refine zbb rfl rfl ?_ | refine zba rfl rfl ?_ | refine zbu rfl ?_ | refine zbv rfl ?_ | refine zbw rfl rfl rfl ?_ | refine zae 0 rfl rfl rfl rfl rfl rfl rfl ?_ | refine zae 1 rfl rfl rfl rfl rfl rfl rfl ?_ | refine zae 2 rfl rfl rfl rfl rfl rfl rfl ?_ | refine zae 3 rfl rfl rfl rfl rfl rfl rfl ?_ | refine zae 4 rfl rfl rfl rfl rfl rfl rfl ?_ | refine zae 5 rfl rfl rfl rfl rfl rfl rfl ?_ | refine zas rfl rfl (by omega) ?_ | refine zat rfl rfl (by omega) ?_ | refine zaq (cs := [_, _]) rfl (fun nb => ?_) | refine zar (fun nb => ?_) | refine zcb rfl ?_ | refine reg_buildA rfl ?_ | refine zbz rfl (by omega) ?_ | refine zca rfl ?_)
          all_goals refine zch ?_
          all_goals repeat (first | refine zck ?_ | refine zcl ?_ | refine zcm ?_ | refine zcn ?_)
          refine run_share [1] rfl ?_
          refine run_shareB [0] rfl (fun zx hzx => ?_)
          repeat (first | refine zck ?_ | refine zcl ?_ | refine zcm ?_ | refine zcn ?_)
          first | refine zcp (by kernel_rfl) ?_ | refine zcq PP_mixed (by kernel_rfl) (by kernel_rfl) ?_
          repeat' (refine zap rfl ?_; first | refine zaa 0 rfl rfl rfl ?_ | refine zaa 1 rfl rfl rfl ?_ | refine zaa 2 rfl rfl rfl ?_ | refine zaa 3 rfl rfl rfl ?_ | refine zaa 4 rfl rfl rfl ?_ | refine zaa 5 rfl rfl rfl ?_ | refine zaa 6 rfl rfl rfl ?_ | refine zad rfl (fun hF Γ w h1 h2 => hb1 hF Γ w (fun p hp => by cases hp) h2) (rN _ (by omega)) ?_ | refine zar (fun t13 => ?_) | refine zaj rfl ?_ | refine zak rfl ?_ | refine zal rfl ?_ | refine zam rfl rfl (fun _ => ?_) (fun _ => ?_) | refine zan rfl ?_ | refine zan rfl ?_ | refine zaa 0 rfl rfl rfl ?_ | refine zaa 1 rfl rfl rfl ?_ | refine zaa 2 rfl rfl rfl ?_ | refine zaa 3 rfl rfl rfl ?_ | refine zaa 4 rfl rfl rfl ?_ | refine zaa 5 rfl rfl rfl ?_ | refine zab 0 rfl rfl rfl ?_ | refine zab 1 rfl rfl rfl ?_ | refine zab 2 rfl rfl rfl ?_ | refine zab 3 rfl rfl rfl ?_ | refine zab 4 rfl rfl rfl ?_ | refine zab 5 rfl rfl rfl ?_ | (refine zai [] oft rfl rfl rfl (fun p hp => by rcases List.mem_append.1 hp with hp | hp <;> simp [hp]) ?_; rintro v Γ ⟨qy, rfl, rfl⟩) | refine zce rfl ?_ | refine zao rfl ?_ | refine zan rfl ?_ | refine zbc rfl rfl (by omega) ?_ | refine zbd rfl rfl (by omega) ?_ | refine zbe rfl rfl (by omega) ?_ | refine zbf rfl rfl (by omega) ?_ | refine zbo rfl rfl ?_ | refine zbp rfl rfl ?_ | refine zay rfl rfl (by omega) ?_ | refine zaz rfl rfl ?_ | refine zbb rfl rfl ?_ | refine zba rfl rfl ?_ | refine zbu rfl ?_ | refine zbv rfl ?_ | refine zbw rfl rfl rfl ?_ | refine zae 0 rfl rfl rfl rfl rfl rfl rfl ?_ | refine zae 1 rfl rfl rfl rfl rfl rfl rfl ?_ | refine zae 2 rfl rfl rfl rfl rfl rfl rfl ?_ | refine zae 3 rfl rfl rfl rfl rfl rfl rfl ?_ | refine zae 4 rfl rfl rfl rfl rfl rfl rfl ?_ | refine zae 5 rfl rfl rfl rfl rfl rfl rfl ?_ | refine zas rfl rfl (by omega) ?_ | refine zat rfl rfl (by omega) ?_ | refine zaq (cs := [_, _]) rfl (fun nb => ?_) | refine zar (fun nb => ?_) | refine zcb rfl ?_ | refine reg_buildA rfl ?_ | refine zbz rfl (by omega) ?_ | refine zca rfl ?_)
          all_goals refine zch ?_
          all_goals repeat (first | refine zck ?_ | refine zcl ?_ | refine zcm ?_ | refine zcn ?_)
          refine run_share [1] rfl ?_
          refine run_shareB [0] rfl (fun zy hzy => ?_)
          have o2 := fun u => same_so w0 zy qy u (joinE e e) (joinE e e) hzy (sj.mono (by omega)) (sj.mono (by omega))
          rw [sameE_self] at o2
          have o1 := fun u => same_so w0 zx qx u (timesE e kI) (timesE e kI) hzx (st.mono (by omega)) (st.mono (by omega))
          rw [sameE_self] at o1
          repeat (first | refine zck ?_ | refine zcl ?_ | refine zcm ?_ | refine zcn ?_)
          first | refine zcp (by kernel_rfl) ?_ | refine zcq PP_mixed (by kernel_rfl) (by kernel_rfl) ?_
          repeat' (refine zap rfl ?_; first | refine zaj rfl ?_ | refine zak rfl ?_ | refine zal rfl ?_ | refine zam rfl rfl (fun _ => ?_) (fun _ => ?_) | refine zan rfl ?_ | refine zan rfl ?_ | refine zaa 0 rfl rfl rfl ?_ | refine zaa 1 rfl rfl rfl ?_ | refine zaa 2 rfl rfl rfl ?_ | refine zaa 3 rfl rfl rfl ?_ | refine zaa 4 rfl rfl rfl ?_ | refine zaa 5 rfl rfl rfl ?_ | refine zab 0 rfl rfl rfl ?_ | refine zab 1 rfl rfl rfl ?_ | refine zab 2 rfl rfl rfl ?_ | refine zab 3 rfl rfl rfl ?_ | refine zab 4 rfl rfl rfl ?_ | refine zab 5 rfl rfl rfl ?_ | refine zce rfl ?_ | refine zao rfl ?_ | refine zan rfl ?_ | refine zbc rfl rfl (by omega) ?_ | refine zbd rfl rfl (by omega) ?_ | refine zbe rfl rfl (by omega) ?_ | refine zbf rfl rfl (by omega) ?_ | refine zbo rfl rfl ?_ | refine zbp rfl rfl ?_ | refine zay rfl rfl (by omega) ?_ | refine zaz rfl rfl ?_ | refine zbb rfl rfl ?_ | refine zba rfl rfl ?_ | refine zbu rfl ?_ | refine zbv rfl ?_ | refine zbw rfl rfl rfl ?_ | refine zae 0 rfl rfl rfl rfl rfl rfl rfl ?_ | refine zae 1 rfl rfl rfl rfl rfl rfl rfl ?_ | refine zae 2 rfl rfl rfl rfl rfl rfl rfl ?_ | refine zae 3 rfl rfl rfl rfl rfl rfl rfl ?_ | refine zae 4 rfl rfl rfl rfl rfl rfl rfl ?_ | refine zae 5 rfl rfl rfl rfl rfl rfl rfl ?_ | refine zas rfl rfl (by omega) ?_ | refine zat rfl rfl (by omega) ?_ | refine zaq (cs := [_, _]) rfl (fun nb => ?_) | refine zar (fun nb => ?_) | refine zcb rfl ?_ | refine reg_buildA rfl ?_ | refine zbz rfl (by omega) ?_ | refine zca rfl ?_)
          all_goals refine zch ?_
          all_goals repeat (first | refine zck ?_ | refine zcl ?_ | refine zcm ?_ | refine zcn ?_)
          refine zcj rfl ?_
          repeat (first | refine zck ?_ | refine zcl ?_ | refine zcm ?_ | refine zcn ?_)
          first | refine zcp (by kernel_rfl) ?_ | refine zcq PP_mixed (by kernel_rfl) (by kernel_rfl) ?_
          repeat' (refine zap rfl ?_; first | refine zaa 0 rfl rfl rfl ?_ | refine zaa 1 rfl rfl rfl ?_ | refine zaa 2 rfl rfl rfl ?_ | refine zaa 3 rfl rfl rfl ?_ | refine zaa 4 rfl rfl rfl ?_ | refine zaa 5 rfl rfl rfl ?_ | refine zaa 6 rfl rfl rfl ?_ | refine zaj rfl ?_ | refine zak rfl ?_ | refine zal rfl ?_ | refine zam rfl rfl (fun _ => ?_) (fun _ => ?_) | refine zan rfl ?_ | refine zan rfl ?_ | refine zaa 0 rfl rfl rfl ?_ | refine zaa 1 rfl rfl rfl ?_ | refine zaa 2 rfl rfl rfl ?_ | refine zaa 3 rfl rfl rfl ?_ | refine zaa 4 rfl rfl rfl ?_ | refine zaa 5 rfl rfl rfl ?_ | refine zab 0 rfl rfl rfl ?_ | refine zab 1 rfl rfl rfl ?_ | refine zab 2 rfl rfl rfl ?_ | refine zab 3 rfl rfl rfl ?_ | refine zab 4 rfl rfl rfl ?_ | refine zab 5 rfl rfl rfl ?_ | refine zah [] (ofE_spec w0 _ _) rfl rfl rfl sub_nil rfl ?_ | (refine zai [] kt rfl rfl rfl (fun p hp => by simp [hp]) ?_; rintro v Γ ⟨u1, rfl, rfl⟩) | refine zah [0] (o1 _) rfl rfl rfl (fun p hp => by simp [hp]) rfl ?_ | (refine zai [] kj rfl rfl rfl (fun p hp => by simp [hp]) ?_; rintro v Γ ⟨u2, rfl, rfl⟩) | refine zah [0] (o2 _) rfl rfl rfl (fun p hp => by simp [hp]) rfl ?_ | refine zah [1] (o2 _) rfl rfl rfl (fun p hp => by simp [hp]) rfl ?_ | refine zah [] haw rfl rfl rfl sub_nil rfl ?_ | refine zce rfl ?_ | refine zao rfl ?_ | refine zan rfl ?_ | refine zbc rfl rfl (by omega) ?_ | refine zbd rfl rfl (by omega) ?_ | refine zbe rfl rfl (by omega) ?_ | refine zbf rfl rfl (by omega) ?_ | refine zbo rfl rfl ?_ | refine zbp rfl rfl ?_ | refine zay rfl rfl (by omega) ?_ | refine zaz rfl rfl ?_ | refine zbb rfl rfl ?_ | refine zba rfl rfl ?_ | refine zbu rfl ?_ | refine zbv rfl ?_ | refine zbw rfl rfl rfl ?_ | refine zae 0 rfl rfl rfl rfl rfl rfl rfl ?_ | refine zae 1 rfl rfl rfl rfl rfl rfl rfl ?_ | refine zae 2 rfl rfl rfl rfl rfl rfl rfl ?_ | refine zae 3 rfl rfl rfl rfl rfl rfl rfl ?_ | refine zae 4 rfl rfl rfl rfl rfl rfl rfl ?_ | refine zae 5 rfl rfl rfl rfl rfl rfl rfl ?_ | refine zas rfl rfl (by omega) ?_ | refine zat rfl rfl (by omega) ?_ | refine zaq (cs := [_, _]) rfl (fun nb => ?_) | refine zar (fun nb => ?_) | refine zcb rfl ?_ | refine reg_buildA rfl ?_ | refine zbz rfl (by omega) ?_ | refine zca rfl ?_)
          all_goals refine zch ?_
          all_goals repeat (first | refine zck ?_ | refine zcl ?_ | refine zcm ?_ | refine zcn ?_)
          refine run_take [] rfl ?_
          exact ret_tmp1 rfl ⟨rfl, rfl⟩
        · repeat (first | refine zck ?_ | refine zcl ?_ | refine zcm ?_ | refine zcn ?_)
          first | refine zcp (by kernel_rfl) ?_ | refine zcq PP_mixed (by kernel_rfl) (by kernel_rfl) ?_
          repeat' (refine zap rfl ?_; first | refine zaa 0 rfl rfl rfl ?_ | refine zaa 1 rfl rfl rfl ?_ | refine zaa 2 rfl rfl rfl ?_ | refine zaa 3 rfl rfl rfl ?_ | refine zaa 4 rfl rfl rfl ?_ | refine zaa 5 rfl rfl rfl ?_ | refine zaa 6 rfl rfl rfl ?_ | refine zad rfl (fun hF Γ w h1 h2 => hb1 hF Γ w (fun p hp => by cases hp) h2) (rN _ (by omega)) ?_ | refine zar (fun t11 => ?_) | refine zaj rfl ?_ | refine zak rfl ?_ | refine zal rfl ?_ | refine zam rfl rfl (fun _ => ?_) (fun _ => ?_) | refine zan rfl ?_ | refine zan rfl ?_ | refine zaa 0 rfl rfl rfl ?_ | refine zaa 1 rfl rfl rfl ?_ | refine zaa 2 rfl rfl rfl ?_ | refine zaa 3 rfl rfl rfl ?_ | refine zaa 4 rfl rfl rfl ?_ | refine zaa 5 rfl rfl rfl ?_ | refine zab 0 rfl rfl rfl ?_ | refine zab 1 rfl rfl rfl ?_ | refine zab 2 rfl rfl rfl ?_ | refine zab 3 rfl rfl rfl ?_ | refine zab 4 rfl rfl rfl ?_ | refine zab 5 rfl rfl rfl ?_ | (refine zai [] ofq rfl rfl rfl (fun p hp => by rcases List.mem_cons.1 hp with rfl | hp; exact List.mem_append_left _ (List.mem_append_left _ (List.mem_append_left _ (.head _))); simp [hp]) ?_; rintro v Γ ⟨qx, rfl, rfl⟩) | refine zce rfl ?_ | refine zao rfl ?_ | refine zan rfl ?_ | refine zbc rfl rfl (by omega) ?_ | refine zbd rfl rfl (by omega) ?_ | refine zbe rfl rfl (by omega) ?_ | refine zbf rfl rfl (by omega) ?_ | refine zbo rfl rfl ?_ | refine zbp rfl rfl ?_ | refine zay rfl rfl (by omega) ?_ | refine zaz rfl rfl ?_ | refine zbb rfl rfl ?_ | refine zba rfl rfl ?_ | refine zbu rfl ?_ | refine zbv rfl ?_ | refine zbw rfl rfl rfl ?_ | refine zae 0 rfl rfl rfl rfl rfl rfl rfl ?_ | refine zae 1 rfl rfl rfl rfl rfl rfl rfl ?_ | refine zae 2 rfl rfl rfl rfl rfl rfl rfl ?_ | refine zae 3 rfl rfl rfl rfl rfl rfl rfl ?_ | refine zae 4 rfl rfl rfl rfl rfl rfl rfl ?_ | refine zae 5 rfl rfl rfl rfl rfl rfl rfl ?_ | refine zas rfl rfl (by omega) ?_ | refine zat rfl rfl (by omega) ?_ | refine zaq (cs := [_, _]) rfl (fun nb => ?_) | refine zar (fun nb => ?_) | refine zcb rfl ?_ | refine reg_buildA rfl ?_ | refine zbz rfl (by omega) ?_ | refine zca rfl ?_)
          all_goals refine zch ?_
          all_goals repeat (first | refine zck ?_ | refine zcl ?_ | refine zcm ?_ | refine zcn ?_)
          refine run_share [1] rfl ?_
          refine run_shareB [0] rfl (fun zx hzx => ?_)
          repeat (first | refine zck ?_ | refine zcl ?_ | refine zcm ?_ | refine zcn ?_)
          first | refine zcp (by kernel_rfl) ?_ | refine zcq PP_mixed (by kernel_rfl) (by kernel_rfl) ?_
          repeat' (refine zap rfl ?_; first | refine zaa 0 rfl rfl rfl ?_ | refine zaa 1 rfl rfl rfl ?_ | refine zaa 2 rfl rfl rfl ?_ | refine zaa 3 rfl rfl rfl ?_ | refine zaa 4 rfl rfl rfl ?_ | refine zaa 5 rfl rfl rfl ?_ | refine zaa 6 rfl rfl rfl ?_ | refine zad rfl (fun hF Γ w h1 h2 => hb1 hF Γ w (fun p hp => by cases hp) h2) (rN _ (by omega)) ?_ | refine zar (fun t13 => ?_) | refine zaj rfl ?_ | refine zak rfl ?_ | refine zal rfl ?_ | refine zam rfl rfl (fun _ => ?_) (fun _ => ?_) | refine zan rfl ?_ | refine zan rfl ?_ | refine zaa 0 rfl rfl rfl ?_ | refine zaa 1 rfl rfl rfl ?_ | refine zaa 2 rfl rfl rfl ?_ | refine zaa 3 rfl rfl rfl ?_ | refine zaa 4 rfl rfl rfl ?_ | refine zaa 5 rfl rfl rfl ?_ | refine zab 0 rfl rfl rfl ?_ | refine zab 1 rfl rfl rfl ?_ | refine zab 2 rfl rfl rfl ?_ | refine zab 3 rfl rfl rfl ?_ | refine zab 4 rfl rfl rfl ?_ | refine zab 5 rfl rfl rfl ?_ | (refine zai [] oft rfl rfl rfl (fun p hp => by rcases List.mem_append.1 hp with hp | hp <;> simp [hp]) ?_; rintro v Γ ⟨qy, rfl, rfl⟩) | refine zce rfl ?_ | refine zao rfl ?_ | refine zan rfl ?_ | refine zbc rfl rfl (by omega) ?_ | refine zbd rfl rfl (by omega) ?_ | refine zbe rfl rfl (by omega) ?_ | refine zbf rfl rfl (by omega) ?_ | refine zbo rfl rfl ?_ | refine zbp rfl rfl ?_ | refine zay rfl rfl (by omega) ?_ | refine zaz rfl rfl ?_ | refine zbb rfl rfl ?_ | refine zba rfl rfl ?_ | refine zbu rfl ?_ | refine zbv rfl ?_ | refine zbw rfl rfl rfl ?_ | refine zae 0 rfl rfl rfl rfl rfl rfl rfl ?_ | refine zae 1 rfl rfl rfl rfl rfl rfl rfl ?_ | refine zae 2 rfl rfl rfl rfl rfl rfl rfl ?_ | refine zae 3 rfl rfl rfl rfl rfl rfl rfl ?_ | refine zae 4 rfl rfl rfl rfl rfl rfl rfl ?_ | refine zae 5 rfl rfl rfl rfl rfl rfl rfl ?_ | refine zas rfl rfl (by omega) ?_ | refine zat rfl rfl (by omega) ?_ | refine zaq (cs := [_, _]) rfl (fun nb => ?_) | refine zar (fun nb => ?_) | refine zcb rfl ?_ | refine reg_buildA rfl ?_ | refine zbz rfl (by omega) ?_ | refine zca rfl ?_)
          all_goals refine zch ?_
          all_goals repeat (first | refine zck ?_ | refine zcl ?_ | refine zcm ?_ | refine zcn ?_)
          refine run_share [1] rfl ?_
          refine run_shareB [0] rfl (fun zy hzy => ?_)
          have o2 := fun u => same_so w0 zy qy u (joinE e e) (joinE e e) hzy (sj.mono (by omega)) (sj.mono (by omega))
          rw [sameE_self] at o2
          repeat (first | refine zck ?_ | refine zcl ?_ | refine zcm ?_ | refine zcn ?_)
          first | refine zcp (by kernel_rfl) ?_ | refine zcq PP_mixed (by kernel_rfl) (by kernel_rfl) ?_
          repeat' (refine zap rfl ?_; first | refine zaj rfl ?_ | refine zak rfl ?_ | refine zal rfl ?_ | refine zam rfl rfl (fun _ => ?_) (fun _ => ?_) | refine zan rfl ?_ | refine zan rfl ?_ | refine zaa 0 rfl rfl rfl ?_ | refine zaa 1 rfl rfl rfl ?_ | refine zaa 2 rfl rfl rfl ?_ | refine zaa 3 rfl rfl rfl ?_ | refine zaa 4 rfl rfl rfl ?_ | refine zaa 5 rfl rfl rfl ?_ | refine zab 0 rfl rfl rfl ?_ | refine zab 1 rfl rfl rfl ?_ | refine zab 2 rfl rfl rfl ?_ | refine zab 3 rfl rfl rfl ?_ | refine zab 4 rfl rfl rfl ?_ | refine zab 5 rfl rfl rfl ?_ | refine zce rfl ?_ | refine zao rfl ?_ | refine zan rfl ?_ | refine zbc rfl rfl (by omega) ?_ | refine zbd rfl rfl (by omega) ?_ | refine zbe rfl rfl (by omega) ?_ | refine zbf rfl rfl (by omega) ?_ | refine zbo rfl rfl ?_ | refine zbp rfl rfl ?_ | refine zay rfl rfl (by omega) ?_ | refine zaz rfl rfl ?_ | refine zbb rfl rfl ?_ | refine zba rfl rfl ?_ | refine zbu rfl ?_ | refine zbv rfl ?_ | refine zbw rfl rfl rfl ?_ | refine zae 0 rfl rfl rfl rfl rfl rfl rfl ?_ | refine zae 1 rfl rfl rfl rfl rfl rfl rfl ?_ | refine zae 2 rfl rfl rfl rfl rfl rfl rfl ?_ | refine zae 3 rfl rfl rfl rfl rfl rfl rfl ?_ | refine zae 4 rfl rfl rfl rfl rfl rfl rfl ?_ | refine zae 5 rfl rfl rfl rfl rfl rfl rfl ?_ | refine zas rfl rfl (by omega) ?_ | refine zat rfl rfl (by omega) ?_ | refine zaq (cs := [_, _]) rfl (fun nb => ?_) | refine zar (fun nb => ?_) | refine zcb rfl ?_ | refine reg_buildA rfl ?_ | refine zbz rfl (by omega) ?_ | refine zca rfl ?_)
          all_goals refine zch ?_
          all_goals repeat (first | refine zck ?_ | refine zcl ?_ | refine zcm ?_ | refine zcn ?_)
          refine zcj rfl ?_
          repeat (first | refine zck ?_ | refine zcl ?_ | refine zcm ?_ | refine zcn ?_)
          first | refine zcp (by kernel_rfl) ?_ | refine zcq PP_mixed (by kernel_rfl) (by kernel_rfl) ?_
          repeat' (refine zap rfl ?_; first | refine zaa 0 rfl rfl rfl ?_ | refine zaa 1 rfl rfl rfl ?_ | refine zaa 2 rfl rfl rfl ?_ | refine zaa 3 rfl rfl rfl ?_ | refine zaa 4 rfl rfl rfl ?_ | refine zaa 5 rfl rfl rfl ?_ | refine zaa 6 rfl rfl rfl ?_ | refine zaj rfl ?_ | refine zak rfl ?_ | refine zal rfl ?_ | refine zam rfl rfl (fun _ => ?_) (fun _ => ?_) | refine zan rfl ?_ | refine zan rfl ?_ | refine zaa 0 rfl rfl rfl ?_ | refine zaa 1 rfl rfl rfl ?_ | refine zaa 2 rfl rfl rfl ?_ | refine zaa 3 rfl rfl rfl ?_ | refine zaa 4 rfl rfl rfl ?_ | refine zaa 5 rfl rfl rfl ?_ | refine zab 0 rfl rfl rfl ?_ | refine zab 1 rfl rfl rfl ?_ | refine zab 2 rfl rfl rfl ?_ | refine zab 3 rfl rfl rfl ?_ | refine zab 4 rfl rfl rfl ?_ | refine zab 5 rfl rfl rfl ?_ | refine zah [] (ofE_spec w0 _ _) rfl rfl rfl sub_nil rfl ?_ | (refine zai [] kj rfl rfl rfl (fun p hp => by simp [hp]) ?_; rintro v Γ ⟨u2, rfl, rfl⟩) | refine zah [0] (o2 _) rfl rfl rfl (fun p hp => by simp [hp]) rfl ?_ | refine zah [1] (o2 _) rfl rfl rfl (fun p hp => by simp [hp]) rfl ?_ | refine zah [] haw rfl rfl rfl sub_nil rfl ?_ | refine zce rfl ?_ | refine zao rfl ?_ | refine zan rfl ?_ | refine zbc rfl rfl (by omega) ?_ | refine zbd rfl rfl (by omega) ?_ | refine zbe rfl rfl (by omega) ?_ | refine zbf rfl rfl (by omega) ?_ | refine zbo rfl rfl ?_ | refine zbp rfl rfl ?_ | refine zay rfl rfl (by omega) ?_ | refine zaz rfl rfl ?_ | refine zbb rfl rfl ?_ | refine zba rfl rfl ?_ | refine zbu rfl ?_ | refine zbv rfl ?_ | refine zbw rfl rfl rfl ?_ | refine zae 0 rfl rfl rfl rfl rfl rfl rfl ?_ | refine zae 1 rfl rfl rfl rfl rfl rfl rfl ?_ | refine zae 2 rfl rfl rfl rfl rfl rfl rfl ?_ | refine zae 3 rfl rfl rfl rfl rfl rfl rfl ?_ | refine zae 4 rfl rfl rfl rfl rfl rfl rfl ?_ | refine zae 5 rfl rfl rfl rfl rfl rfl rfl ?_ | refine zas rfl rfl (by omega) ?_ | refine zat rfl rfl (by omega) ?_ | refine zaq (cs := [_, _]) rfl (fun nb => ?_) | refine zar (fun nb => ?_) | refine zcb rfl ?_ | refine reg_buildA rfl ?_ | refine zbz rfl (by omega) ?_ | refine zca rfl ?_)
          all_goals refine zch ?_
          all_goals repeat (first | refine zck ?_ | refine zcl ?_ | refine zcm ?_ | refine zcn ?_)
          refine run_take [] rfl ?_
          exact ret_tmp1 rfl ⟨rfl, rfl⟩
      · repeat' (first | refine zck ?_ | refine zcp (by kernel_rfl) ?_ | refine zcq PP_mixed (by kernel_rfl) (by kernel_rfl) ?_ | refine zcm ?_ | refine zcl ?_ | refine zcn ?_ | refine zco ?_ | refine zcs rfl ?_ | (refine zap rfl ?_; first | refine zaj rfl ?_ | refine zak rfl ?_ | refine zal rfl ?_ | refine zam rfl rfl (fun _ => ?_) (fun _ => ?_) | refine zan rfl ?_ | refine zan rfl ?_ | refine zaa 0 rfl rfl rfl ?_ | refine zaa 1 rfl rfl rfl ?_ | refine zaa 2 rfl rfl rfl ?_ | refine zaa 3 rfl rfl rfl ?_ | refine zaa 4 rfl rfl rfl ?_ | refine zaa 5 rfl rfl rfl ?_ | refine zab 0 rfl rfl rfl ?_ | refine zab 1 rfl rfl rfl ?_ | refine zab 2 rfl rfl rfl ?_ | refine zab 3 rfl rfl rfl ?_ | refine zab 4 rfl rfl rfl ?_ | refine zab 5 rfl rfl rfl ?_ | refine zah [] haw rfl rfl rfl sub_nil rfl ?_ | refine zce rfl ?_ | refine zao rfl ?_ | refine zan rfl ?_ | refine zbc rfl rfl (by omega) ?_ | refine zbd rfl rfl (by omega) ?_ | refine zbe rfl rfl (by omega) ?_ | refine zbf rfl rfl (by omega) ?_ | refine zbo rfl rfl ?_ | refine zbp rfl rfl ?_ | refine zay rfl rfl (by omega) ?_ | refine zaz rfl rfl ?_ | refine zbb rfl rfl ?_ | refine zba rfl rfl ?_ | refine zbu rfl ?_ | refine zbv rfl ?_ | refine zbw rfl rfl rfl ?_ | refine zae 0 rfl rfl rfl rfl rfl rfl rfl ?_ | refine zae 1 rfl rfl rfl rfl rfl rfl rfl ?_ | refine zae 2 rfl rfl rfl rfl rfl rfl rfl ?_ | refine zae 3 rfl rfl rfl rfl rfl rfl rfl ?_ | refine zae 4 rfl rfl rfl rfl rfl rfl rfl ?_ | refine zae 5 rfl rfl rfl rfl rfl rfl rfl ?_ | refine zas rfl rfl (by omega) ?_ | refine zat rfl rfl (by omega) ?_ | refine zaq (cs := [_, _]) rfl (fun nb => ?_) | refine zar (fun nb => ?_) | refine zcb rfl ?_ | refine reg_buildA rfl ?_ | refine zbz rfl (by omega) ?_ | refine zca rfl ?_) | refine zch ?_ | refine zci rfl ?_ | refine zcj rfl ?_)
        refine run_take [] rfl ?_
        exact ret_tmp1 rfl ⟨rfl, rfl⟩
    · repeat' (first | refine zck ?_ | refine zcp (by kernel_rfl) ?_ | refine zcq PP_mixed (by kernel_rfl) (by kernel_rfl) ?_ | refine zcm ?_ | refine zcl ?_ | refine zcn ?_ | refine zco ?_ | refine zcs rfl ?_ | (refine zap rfl ?_; first | refine zaj rfl ?_ | refine zak rfl ?_ | refine zal rfl ?_ | refine zam rfl rfl (fun _ => ?_) (fun _ => ?_) | refine zan rfl ?_ | refine zan rfl ?_ | refine zaa 0 rfl rfl rfl ?_ | refine zaa 1 rfl rfl rfl ?_ | refine zaa 2 rfl rfl rfl ?_ | refine zaa 3 rfl rfl rfl ?_ | refine zaa 4 rfl rfl rfl ?_ | refine zaa 5 rfl rfl rfl ?_ | refine zab 0 rfl rfl rfl ?_ | refine zab 1 rfl rfl rfl ?_ | refine zab 2 rfl rfl rfl ?_ | refine zab 3 rfl rfl rfl ?_ | refine zab 4 rfl rfl rfl ?_ | refine zab 5 rfl rfl rfl ?_ | refine zah [] haw rfl rfl rfl sub_nil rfl ?_ | refine zce rfl ?_ | refine zao rfl ?_ | refine zan rfl ?_ | refine zbc rfl rfl (by omega) ?_ | refine zbd rfl rfl (by omega) ?_ | refine zbe rfl rfl (by omega) ?_ | refine zbf rfl rfl (by omega) ?_ | refine zbo rfl rfl ?_ | refine zbp rfl rfl ?_ | refine zay rfl rfl (by omega) ?_ | refine zaz rfl rfl ?_ | refine zbb rfl rfl ?_ | refine zba rfl rfl ?_ | refine zbu rfl ?_ | refine zbv rfl ?_ | refine zbw rfl rfl rfl ?_ | refine zae 0 rfl rfl rfl rfl rfl rfl rfl ?_ | refine zae 1 rfl rfl rfl rfl rfl rfl rfl ?_ | refine zae 2 rfl rfl rfl rfl rfl rfl rfl ?_ | refine zae 3 rfl rfl rfl rfl rfl rfl rfl ?_ | refine zae 4 rfl rfl rfl rfl rfl rfl rfl ?_ | refine zae 5 rfl rfl rfl rfl rfl rfl rfl ?_ | refine zas rfl rfl (by omega) ?_ | refine zat rfl rfl (by omega) ?_ | refine zaq (cs := [_, _]) rfl (fun nb => ?_) | refine zar (fun nb => ?_) | refine zcb rfl ?_ | refine reg_buildA rfl ?_ | refine zbz rfl (by omega) ?_ | refine zca rfl ?_) | refine zch ?_ | refine zci rfl ?_ | refine zcj rfl ?_)
      exact ret_tmp1 rfl ⟨rfl, rfl⟩
end Go.Proofs.YtjapaghhgpaldaaGreatDoor

namespace Go.Proofs.YtjapaghhgpaldaaGreatDoor
open Go.Vc Sim Go.ChangeShapes Go.WideShapes Go.RowKit
set_option maxRecDepth 100000
theorem in_prog {H : Type} {enc : TypeId × Value → H} {w : World} {base : Nat} {spare : Nat → Bool} {held : Bool} {r : Reach} {b0 : Nat} {v : Value} {d : DataW H} {ps : List MemPlace}
    (hval : Value.okWide Tryz.prog w r b0 25 v) (h : DataW.Trod enc Tryz.prog w base spare held 25 v d ps) (hw : ∀ q ∈ d.weights Tryz.prog 25, q ≤ reachBytes) :
    ∃ p : PP', RdP w [] v p ∧ p.sz := by
  obtain ⟨fuel, hf⟩ := h
  simp only [Value.okWide, Tryz.underlying25] at hval
  obtain ⟨cs, rfl, _⟩ := hval
  have hf : DataW.trod enc Tryz.prog w base spare held fuel 25 cs.toList = some (d, ps) := hf
  obtain ⟨a, b, p, e, h1, h2⟩ := in_pp fuel _ _ hf hw
  have e2 : cs = #[a, b] := by rw [← Array.toList_inj, e]
  rw [e2]
  exact ⟨p, h1, h2⟩
end Go.Proofs.YtjapaghhgpaldaaGreatDoor

namespace Sim
open Go Go.Vc
def Ef.ok (e : Ef) : Prop := (∀ x ∈ e.writes, x ∈ e.reads) ∧ 0 ≤ e.calls ∧ (e.reads ≠ [] → 1 ≤ e.calls)
theorem zeroE_ok : zeroE.ok := And.intro (fun x h => by cases h) (And.intro (Int.le_refl 0) (fun h => absurd rfl h))
theorem bndC_pos {n : Int} (h : 1 ≤ n) : 1 ≤ bndC n := by unfold bndC mostC; split <;> (try split) <;> omega
theorem sumC_pos {a b : Int} (h : 1 ≤ a ∨ 1 ≤ b) : 1 ≤ sumC a b := by
  have h1 := bndC_range a
  have h2 := bndC_range b
  unfold sumC
  rcases h with h | h
  · have := bndC_pos h
    split
    · unfold mostC; omega
    · omega
  · have := bndC_pos h
    split
    · unfold mostC; omega
    · omega
theorem normN_ne {a b : List ByteArray} (h : normN (a ++ b) ≠ []) : a ≠ [] ∨ b ≠ [] := by
  cases a with
  | nil => right; intro hb; rw [hb] at h; exact h rfl
  | cons x a => left; exact List.cons_ne_nil _ _
theorem sub_join {w1 w2 r1 r2 : List ByteArray} (h1 : ∀ x ∈ w1, x ∈ r1) (h2 : ∀ x ∈ w2, x ∈ r2) : ∀ x ∈ normN (w1 ++ w2), x ∈ normN (r1 ++ r2) := fun x hx => by
  rw [mem_normN, List.mem_append] at hx ⊢
  exact hx.elim (fun h => .inl (h1 x h)) (fun h => .inr (h2 x h))
theorem joinE_ok {a b : Ef} (ha : a.ok) (hb : b.ok) : (joinE a b).ok :=
  ⟨sub_join ha.1 hb.1, (sumC_range _ _).1, fun h => sumC_pos ((normN_ne h).elim (fun g => .inl (ha.2.2 g)) (fun g => .inr (hb.2.2 g)))⟩
theorem timesE_ok {e : Ef} (n : Int) (h : e.ok) : (timesE e n).ok := by
  unfold timesE
  split
  · exact zeroE_ok
  · rename_i hn
    obtain ⟨h1, h2, h3⟩ := joinE_ok h zeroE_ok
    refine ⟨h1, ?_, fun hr => ?_⟩
    · dsimp only
      split
      · unfold mostC; omega
      · exact Int.mul_nonneg h2 (by omega)
    · have h4 := h3 hr
      dsimp only
      split
      · unfold mostC; omega
      · have := Int.mul_le_mul h4 (show 1 ≤ n by omega) (by omega) (by omega)
        omega
theorem partE_ok {k num : Int} {a b c : Ef} (ha : a.ok) (hb : b.ok) (hc : c.ok) : (partE k num a b c).ok := by
  unfold partE
  split
  · exact timesE_ok num hb
  · refine joinE_ok ha ⟨(joinE_ok hb hc).1, ?_, fun h => ?_⟩
    · have := hb.2.1
      have := hc.2.1
      dsimp only
      unfold maxC
      split <;> omega
    · have h1 := hb.2.1
      have h2 := hc.2.1
      dsimp only
      rcases normN_ne h with g | g
      · have := hb.2.2 g
        unfold maxC
        split <;> omega
      · have := hc.2.2 g
        unfold maxC
        split <;> omega
theorem callE_ok (ks : List (ByteArray × ByteArray)) (s m : ByteArray) : (callE ks s m).ok := by
  refine ⟨fun x hx => ?_, show (0 : Int) ≤ 1 by decide, fun _ => show (1 : Int) ≤ 1 by decide⟩
  unfold callE at hx ⊢
  dsimp only at hx ⊢
  split at hx
  · exact hx
  · cases hx
theorem nodeE_ok {ks : List (ByteArray × ByteArray)} {k : Int} {a b : ByteArray} {out : Ef} (h : out.ok) : (nodeE ks k a b out).ok := by
  unfold nodeE
  split
  · exact joinE_ok h (callE_ok ks a b)
  · split
    · exact joinE_ok h (And.intro (fun x h => by cases h) (And.intro (Int.le_refl 0) (fun h => absurd rfl h)))
    · exact h
mutual
theorem exprE_ok (ks : List (ByteArray × ByteArray)) : ∀ (e : PE) (w : Int), (exprE ks e w).1.ok
  | .mk k num a b xs ys, w => by
    rw [exprE]
    exact nodeE_ok (exprEs_ok ks ys _ _ (exprEs_ok ks xs _ _ zeroE_ok))
theorem exprEs_ok (ks : List (ByteArray × ByteArray)) : ∀ (l : List PE) (out : Ef) (w : Int), out.ok → (exprEs ks l out w).1.ok
  | [], out, w, h => by rw [exprEs]; exact h
  | e :: l, out, w, h => by rw [exprEs]; exact exprEs_ok ks l _ _ (joinE_ok h (exprE_ok ks e w))
end
mutual
theorem stmtE_ok (ks : List (ByteArray × ByteArray)) : ∀ (s : PS) (w : Int), (stmtE ks s w).1.ok
  | .mk k a num e body els, w => by
    rw [stmtE]
    exact partE_ok (exprE_ok ks e w) (stmtEs_ok ks body _ _ zeroE_ok) (stmtEs_ok ks els _ _ zeroE_ok)
theorem stmtEs_ok (ks : List (ByteArray × ByteArray)) : ∀ (l : List PS) (out : Ef) (w : Int), out.ok → (stmtEs ks l out w).1.ok
  | [], out, w, h => by rw [stmtEs]; exact h
  | e :: l, out, w, h => by rw [stmtEs]; exact stmtEs_ok ks l _ _ (joinE_ok h (stmtE_ok ks e w))
end
def Ef.le (a b : Ef) : Prop := (∀ x ∈ a.reads, x ∈ b.reads) ∧ (∀ x ∈ a.writes, x ∈ b.writes) ∧ (∀ x ∈ a.hosts, x ∈ b.hosts) ∧ a.calls ≤ b.calls
theorem Ef.le.trans {a b c : Ef} (h : a.le b) (g : b.le c) : a.le c := ⟨fun x hx => g.1 x (h.1 x hx), fun x hx => g.2.1 x (h.2.1 x hx), fun x hx => g.2.2.1 x (h.2.2.1 x hx), Int.le_trans h.2.2.2 g.2.2.2⟩
theorem Ef.nm.calls {a : Ef} (h : a.nm) : 0 ≤ a.calls ∧ a.calls ≤ mostC := by
  unfold Ef.nm at h
  rw [← h]
  exact sumC_range _ _
theorem le_joinE {a : Ef} (b : Ef) (h : a.nm) : a.le (joinE a b) := by
  have hm : ∀ (l m : List ByteArray), ∀ x ∈ l, x ∈ normN (l ++ m) := fun l m x hx => by rw [mem_normN, List.mem_append]; exact .inl hx
  refine ⟨hm _ _, hm _ _, hm _ _, ?_⟩
  have h1 := h.calls
  have h2 := bndC_range b.calls
  show a.calls ≤ sumC a.calls b.calls
  unfold sumC
  rw [bndC_id h1.1 h1.2]
  split <;> omega
theorem stmtEs_le (ks : List (ByteArray × ByteArray)) : ∀ (l : List PS) (out : Ef) (w : Int), out.nm → out.le (stmtEs ks l out w).1
  | [], out, w, _ => by rw [stmtEs]; exact ⟨fun _ h => h, fun _ h => h, fun _ h => h, Int.le_refl _⟩
  | e :: l, out, w, h => by rw [stmtEs]; exact (le_joinE _ h).trans (stmtEs_le ks l _ _ (joinE_nm _ _))
theorem nodeW_err {ks : List (ByteArray × ByteArray)} {k w : Int} {a b : ByteArray} (h : w ≠ 0) : nodeW ks k a b w = w := by
  unfold nodeW
  split
  · unfold callW; rw [if_pos h]
  · rfl
mutual
theorem exprE_err (ks : List (ByteArray × ByteArray)) : ∀ (e : PE) (w : Int), w ≠ 0 → (exprE ks e w).2 = w
  | .mk k num a b xs ys, w, h => by
    rw [exprE]
    have h1 := exprEs_err ks xs zeroE w h
    have h2 := exprEs_err ks ys (exprEs ks xs zeroE w).1 _ h
    show nodeW ks k a b (exprEs ks ys (exprEs ks xs zeroE w).1 (exprEs ks xs zeroE w).2).2 = w
    rw [h1, h2]
    exact nodeW_err h
theorem exprEs_err (ks : List (ByteArray × ByteArray)) : ∀ (l : List PE) (out : Ef) (w : Int), w ≠ 0 → (exprEs ks l out w).2 = w
  | [], out, w, h => by rw [exprEs]
  | e :: l, out, w, h => by rw [exprEs, exprE_err ks e w h]; exact exprEs_err ks l _ w h
end
mutual
theorem stmtE_err (ks : List (ByteArray × ByteArray)) : ∀ (s : PS) (w : Int), w ≠ 0 → (stmtE ks s w).2 = w
  | .mk k a num e body els, w, h => by
    rw [stmtE]
    show (stmtEs ks els zeroE (stmtEs ks body zeroE (exprE ks e w).2).2).2 = w
    rw [exprE_err ks e w h, stmtEs_err ks body _ w h, stmtEs_err ks els _ w h]
theorem stmtEs_err (ks : List (ByteArray × ByteArray)) : ∀ (l : List PS) (out : Ef) (w : Int), w ≠ 0 → (stmtEs ks l out w).2 = w
  | [], out, w, h => by rw [stmtEs]
  | e :: l, out, w, h => by rw [stmtEs, stmtE_err ks e w h]; exact stmtEs_err ks l _ w h
end
theorem stmtEs_take {ks : List (ByteArray × ByteArray)} {l : List PS} (n : Nat) (h : (stmtEs ks l zeroE 0).2 = 0) : (stmtEs ks (l.take n) zeroE 0).2 = 0 ∧ (stmtEs ks (l.take n) zeroE 0).1.le (stmtEs ks l zeroE 0).1 := by
  have h1 := stmtEs_app ks (l.take n) (l.drop n) zeroE 0
  rw [List.take_append_drop] at h1
  have h2 : (stmtEs ks (l.take n) zeroE 0).2 = 0 := by
    by_cases h3 : (stmtEs ks (l.take n) zeroE 0).2 = 0
    · exact h3
    · have := stmtEs_err ks (l.drop n) (stmtEs ks (l.take n) zeroE 0).1 _ h3
      rw [← h1, h] at this
      exact this.symm
  exact ⟨h2, by rw [h1]; exact stmtEs_le ks _ _ _ (stmtEs_nm ks _ _ _ zeroE_nm)⟩
theorem wrongSs_take {l : List PS} {d : Int} (n : Nat) (h : wrongSs l d = 0) : wrongSs (l.take n) d = 0 := by
  have h1 := wrongSs_app (l.take n) (l.drop n) d
  rw [List.take_append_drop, h] at h1
  by_cases h2 : wrongSs (l.take n) d = 0
  · exact h2
  · rw [if_pos h2] at h1; exact h1.symm
def cutO (name : ByteArray) (c : Nat) (o : PO) : PO := if o.name = name then o.put (o.body.take (c % (o.body.length + 1))) else o
theorem cutO_name (name : ByteArray) (c : Nat) (o : PO) : (cutO name c o).name = o.name := by unfold cutO; split <;> rfl
theorem wrongOs_cut (name : ByteArray) (c : Nat) : ∀ (l : List PO) (met : List ByteArray), wrongOs met l = 0 → wrongOs met (l.map (cutO name c)) = 0
  | [], _, h => h
  | o :: l, met, h => by
    rw [wrongOs] at h
    have h1 : wrongO met o = 0 := by
      by_cases h1 : wrongO met o = 0
      · exact h1
      · rw [if_pos h1] at h; exact absurd h h1
    rw [if_neg (by omega)] at h
    have h2 : wrongO met (cutO name c o) = 0 := by
      unfold cutO
      split
      · rw [wrongO_put h1]; exact wrongSs_take _ (wrongO_body h1)
      · exact h1
    rw [List.map_cons, wrongOs, if_neg (by omega), cutO_name]
    exact wrongOs_cut name c l _ h
theorem find_cut (name : ByteArray) (c : Nat) : ∀ (l : List PO), (l.map (cutO name c)).find? (fun o => decide (o.name = name)) = (l.find? fun o => decide (o.name = name)).map (cutO name c)
  | [] => rfl
  | o :: l => by
    rw [List.map_cons]
    by_cases h : o.name = name
    · rw [List.find?_cons_of_pos (by rw [cutO_name]; simpa using h), List.find?_cons_of_pos (by simpa using h)]; rfl
    · rw [List.find?_cons_of_neg (by rw [cutO_name]; simpa using h), List.find?_cons_of_neg (by simpa using h)]
      exact find_cut name c l
theorem ofP_cut {p : PP'} {name : ByteArray} (c : Nat) (h : (ofP p name).2 = 0) :
    (ofP p name).1.ok ∧ (ofP p name).1.nm ∧ (ofP ⟨p.stores, p.opers.map (cutO name c)⟩ name).2 = 0 ∧ (ofP ⟨p.stores, p.opers.map (cutO name c)⟩ name).1.le (ofP p name).1 := by
  obtain ⟨st, ops⟩ := p
  have hf := find_cut name c ops
  unfold ofP at h ⊢
  by_cases h1 : checkP ⟨st, ops⟩ = 0
  · rw [if_neg (by omega)] at h
    obtain ⟨z1, z2, z3, z4⟩ := checkP_zero h1
    dsimp only at z1 z2 z3 z4
    have h3 : checkP ⟨st, ops.map (cutO name c)⟩ = 0 := by
      unfold checkP
      dsimp only
      rw [List.length_map, if_neg (by omega), if_neg (by omega)]
      exact wrongOs_cut name c ops [] z4
    have hf2 : findP ⟨st, ops.map (cutO name c)⟩ name = (findP ⟨st, ops⟩ name).map (cutO name c) := hf
    rw [hf2, h1, h3]
    cases hq : findP ⟨st, ops⟩ name with
    | none => rw [hq] at h; exact absurd (show (10 : Int) = 0 from h) (by decide)
    | some o =>
      rw [hq] at h
      rw [Option.map_some]
      have hn : o.name = name := by
        have := List.find?_some hq
        simpa using this
      have hcut : (cutO name c o).body = o.body.take (c % (o.body.length + 1)) := by unfold cutO; rw [if_pos hn]; rfl
      dsimp only at h ⊢
      have h2 : (stmtEs st o.body zeroE 0).2 = 0 := by
        by_cases h2 : (stmtEs st o.body zeroE 0).2 = 0
        · exact h2
        · rw [if_pos h2] at h; exact absurd h h2
      obtain ⟨g1, g2⟩ := stmtEs_take (c % (o.body.length + 1)) h2
      simp only [hcut, h2, g1, ne_eq, not_true_eq_false, if_false]
      exact ⟨stmtEs_ok _ _ _ _ zeroE_ok, stmtEs_nm _ _ _ _ zeroE_nm, trivial, g2⟩
  · rw [if_pos h1] at h; exact absurd h h1
end Sim

namespace Sim
def withinS (a b : List ByteArray) : Bool := a.all fun s => inS b s
theorem withinS_drop {a b : List ByteArray} {j : Nat} {x : ByteArray} (h : a[j]? = some x) : withinS (a.drop j) b = (inS b x && withinS (a.drop (j + 1)) b) := by
  have hj := (List.getElem?_eq_some_iff.1 h).1
  rw [List.drop_eq_getElem_cons hj, (List.getElem?_eq_some_iff.1 h).2]; rfl
end Sim
namespace Go.Proofs.YtjapaghhgpaldaaGreatDoor
open Go.Vc Sim
set_option maxHeartbeats 1000000 in
theorem within_spec (w0 : World) (sh : Shared) (va vb : Value) (a b : List ByteArray) (ha : RdSl w0 sh encY 1 va a) (hb : RdSl w0 sh encY 1 vb b) (hn : a.length ≤ 1099511627776) (hn2 : b.length ≤ 1099511627776) :
    FnE PP w0 sh 12 [va, vb] [] (.bool (withinS a b)) [] := by
  obtain ⟨x1, y1, rfl⟩ := ha.val
  obtain ⟨_, c1, e1, hc1, _⟩ := id ha
  cases e1
  refine fn_of_run en12 fn12 rfl rfl rfl ?_
  repeat' (first | refine zck ?_ | refine zcp (by kernel_rfl) ?_ | refine zcq PP_mixed (by kernel_rfl) (by kernel_rfl) ?_ | refine zcm ?_ | refine zcl ?_ | refine zcn ?_ | refine zco ?_ | refine zcs rfl ?_ | (refine zap rfl ?_; first | refine zan rfl ?_ | refine zan rfl ?_ | refine zce rfl ?_ | refine zbg rfl rfl (by omega) ?_ | refine zbh rfl rfl (by omega) ?_ | refine reg_addZ rfl rfl (by omega) ?_ | refine zau rfl rfl (by omega) ?_ | refine zbq rfl rfl ?_ | refine zby rfl ?_ | refine zbx rfl ?_) | refine zch ?_ | refine zci rfl ?_ | refine zcj rfl ?_)
  refine run_loop (S := Nat) (fun j => [(0, .slice x1 a.length y1), (1, vb), (5, .int .i64 j)]) (fun j Γ => Γ = [] ∧ j ≤ a.length ∧ withinS a b = withinS (a.drop j) b) (fun j => a.length - j) 0 ⟨rfl, rfl, rfl, trivial⟩ ⟨rfl, by omega, rfl⟩ ?_
  rintro j Γ junk ⟨rfl, g1, g2⟩
  by_cases hj : j < a.length
  · obtain ⟨x, hx⟩ : ∃ x, a[j]? = some x := ⟨_, List.getElem?_eq_getElem hj⟩
    have hd := withinS_drop (b := b) hx
    have hm := meet_spec w0 sh _ vb ((a.drop j).take 1) b (ha.mid (q := j) (r := 1) (by omega)) hb (by rw [List.length_take]; omega) hn2
    have he : meetS ((a.drop j).take 1) b = inS b x := by
      rw [List.drop_eq_getElem_cons hj, (List.getElem?_eq_some_iff.1 hx).2]
      simp [meetS]
    rw [he] at hm
    cases hq : inS b x with
    | true =>
      rw [hq] at hm hd
      rw [Bool.true_and] at hd
      rw [hd] at g2
      repeat' (first | refine zck ?_ | refine zcp (by kernel_rfl) ?_ | refine zcq PP_mixed (by kernel_rfl) (by kernel_rfl) ?_ | refine zcm ?_ | refine zcl ?_ | refine zcn ?_ | refine zco ?_ | refine zcs rfl ?_ | (refine zap rfl ?_; first | refine reg_sliceM (sz := 1) rfl rfl rfl (by omega) (r := 1) (by omega) ?_ | refine zan rfl ?_ | refine zan rfl ?_ | refine zah [] hm rfl rfl rfl (fun _ h => h) rfl ?_ | refine zce rfl ?_ | refine zbg rfl rfl (by omega) ?_ | refine zbh rfl rfl (by omega) ?_ | refine reg_addZ rfl rfl (by omega) ?_ | refine zau rfl rfl (by omega) ?_ | refine zbq rfl rfl ?_ | refine zby rfl ?_ | refine zbx rfl ?_) | refine zch ?_ | refine zci rfl ?_ | refine zcj rfl ?_)
      exact cut_end ⟨rfl, j + 1, ⟨rfl, rfl, int_eq (by omega), trivial⟩, ⟨rfl, by omega, g2⟩, by omega⟩
    | false =>
      rw [hq] at hm hd
      rw [Bool.false_and] at hd
      rw [hd] at g2
      rw [g2]
      repeat' (first | refine zck ?_ | refine zcp (by kernel_rfl) ?_ | refine zcq PP_mixed (by kernel_rfl) (by kernel_rfl) ?_ | refine zcm ?_ | refine zcl ?_ | refine zcn ?_ | refine zco ?_ | refine zcs rfl ?_ | (refine zap rfl ?_; first | refine reg_sliceM (sz := 1) rfl rfl rfl (by omega) (r := 1) (by omega) ?_ | refine zan rfl ?_ | refine zan rfl ?_ | refine zah [] hm rfl rfl rfl (fun _ h => h) rfl ?_ | refine zce rfl ?_ | refine zbg rfl rfl (by omega) ?_ | refine zbh rfl rfl (by omega) ?_ | refine reg_addZ rfl rfl (by omega) ?_ | refine zau rfl rfl (by omega) ?_ | refine zbq rfl rfl ?_ | refine zby rfl ?_ | refine zbx rfl ?_) | refine zch ?_ | refine zci rfl ?_ | refine zcj rfl ?_)
      exact qret1 (fun _ _ h => h) rfl ⟨rfl, rfl⟩
  · have he : withinS a b = true := by rw [g2, List.drop_eq_nil_of_le (by omega)]; rfl
    rw [he]
    repeat' (first | refine zck ?_ | refine zcp (by kernel_rfl) ?_ | refine zcq PP_mixed (by kernel_rfl) (by kernel_rfl) ?_ | refine zcm ?_ | refine zcl ?_ | refine zcn ?_ | refine zco ?_ | refine zcs rfl ?_ | (refine zap rfl ?_; first | refine zan rfl ?_ | refine zan rfl ?_ | refine zce rfl ?_ | refine zbg rfl rfl (by omega) ?_ | refine zbh rfl rfl (by omega) ?_ | refine reg_addZ rfl rfl (by omega) ?_ | refine zau rfl rfl (by omega) ?_ | refine zbq rfl rfl ?_ | refine zby rfl ?_ | refine zbx rfl ?_) | refine zch ?_ | refine zci rfl ?_ | refine zcj rfl ?_)
    refine cut_exit rfl rfl ?_
    repeat' (first | refine zck ?_ | refine zcp (by kernel_rfl) ?_ | refine zcq PP_mixed (by kernel_rfl) (by kernel_rfl) ?_ | refine zcm ?_ | refine zcl ?_ | refine zcn ?_ | refine zco ?_ | refine zcs rfl ?_ | (refine zap rfl ?_; first | refine zan rfl ?_ | refine zan rfl ?_ | refine zce rfl ?_ | refine zbg rfl rfl (by omega) ?_ | refine zbh rfl rfl (by omega) ?_ | refine reg_addZ rfl rfl (by omega) ?_ | refine zau rfl rfl (by omega) ?_ | refine zbq rfl rfl ?_ | refine zby rfl ?_ | refine zbx rfl ?_) | refine zch ?_ | refine zci rfl ?_ | refine zcj rfl ?_)
    exact ret_tmp1 rfl ⟨rfl, rfl⟩
end Go.Proofs.YtjapaghhgpaldaaGreatDoor

