import Derived.Test.YtijbnjaackhlcaaGreatDoorPart6
import Derived.Test.YtijbnjaackhlcaaGreatDoorPart4
import Derived.Test.YtijbnjaackhlcaaGreatDoorPart3
/- Lemmas and walks for the claims of this seat (own work): Yr2 Ty3. -/
namespace Go.Vc
open Sim
structure RdW (w0 : World) (sh : Shared) (vst vkn vml : Value) (st : List (ByteArray × ByteArray)) : Prop where
  s : RdSl w0 sh encD 2 vst st
  k : RdSl w0 sh encY 1 vkn ctNames
  m : RdSl w0 sh encMA 3 vml ctA
theorem RdW.mono {w0 : World} {sh sh' : Shared} {vst vkn vml : Value} {st : List (ByteArray × ByteArray)} (h : RdW w0 sh vst vkn vml st) (hs : ∀ p ∈ sh, p ∈ sh') : RdW w0 sh' vst vkn vml st := ⟨h.s.mono hs, h.k.mono hs, h.m.mono hs⟩
end Go.Vc
namespace Sim
theorem ctA_len : ctA.length ≤ 1000 := by decide +kernel
end Sim
namespace Go.Proofs.YtijbnjaackhlcaaGreatDoor
open Go.Vc Sim
set_option maxHeartbeats 8000000 in
theorem methodR_spec (w0 : World) (sh : Shared) (ast akn aml : Option Addr) (cst ckn cml : Nat) (st : List (ByteArray × ByteArray)) (e : PE) (va vo : Value) (n : Int) (hW : RdW w0 sh (.slice ast st.length cst) (.slice akn ctNames.length ckn) (.slice aml ctA.length cml) st) (hb : st.length ≤ 8796093022208) :
    FnE PP w0 sh 59 [.agg #[.slice ast st.length cst, .slice akn ctNames.length ckn, .slice aml ctA.length cml], .agg (List.toArray (peC e.kind e.num e.name e.meth va vo)), .int .i64 n] [] (.int .i64 (methR st e.name e.meth n)) [] := by
  have hal := ctA_len
  obtain ⟨R, hR⟩ : ∃ R, methR st e.name e.meth n = R := ⟨_, rfl⟩
  rw [hR]
  unfold methR at hR
  refine fn_of_run en59 fn59 rfl rfl rfl ?_
  repeat (first | refine zck ?_ | refine zcl ?_ | refine zcm ?_ | refine zcn ?_)
  first | refine zcp (by kernel_rfl) ?_ | refine zcq PP_mixed (by kernel_rfl) (by kernel_rfl) ?_
  repeat' (refine zap rfl ?_; first | refine zaq (cs := [_, _, _]) rfl (fun tw => ?_) | refine zaq (cs := [_, _, _, _, _, _]) rfl (fun te => ?_) | refine zan rfl ?_)
  all_goals refine zch ?_
  all_goals repeat (first | refine zck ?_ | refine zcl ?_ | refine zcm ?_ | refine zcn ?_)
  refine run_share [0] rfl ?_
  refine run_share [0] rfl ?_
  repeat (first | refine zck ?_ | refine zcl ?_ | refine zcm ?_ | refine zcn ?_)
  first | refine zcp (by kernel_rfl) ?_ | refine zcq PP_mixed (by kernel_rfl) (by kernel_rfl) ?_
  repeat' (refine zap rfl ?_; first | refine zan rfl ?_)
  all_goals refine zch ?_
  all_goals repeat (first | refine zck ?_ | refine zcl ?_ | refine zcm ?_ | refine zcn ?_)
  repeat (first | refine zck ?_ | refine zcl ?_ | refine zcm ?_ | refine zcn ?_)
  first | refine zcp (by kernel_rfl) ?_ | refine zcq PP_mixed (by kernel_rfl) (by kernel_rfl) ?_
  repeat' (refine zap rfl ?_; first | refine zan rfl ?_)
  all_goals refine zch ?_
  all_goals repeat (first | refine zck ?_ | refine zcl ?_ | refine zcm ?_ | refine zcn ?_)
  refine run_loop (S := Nat × Option ByteArray) (fun s => [(2, .int .i64 n), (3, .pointer (some ⟨tw, 0, none⟩)), (4, .pointer (some ⟨te, 0, none⟩)), (7, .string (s.2.getD ⟨#[]⟩)), (8, .bool s.2.isSome), (9, .int .i64 (s.1 : Int))])
    (fun s Γ => Γ = [] ∧ s.1 ≤ st.length ∧ lastK (st.drop s.1) e.name s.2 = lastK st e.name none) (fun s => st.length - s.1) (0, none) ⟨rfl, rfl, rfl, rfl, rfl, rfl, trivial⟩ ⟨rfl, Nat.zero_le _, rfl⟩ ?_
  rintro ⟨j, o⟩ Γ junk ⟨rfl, g1, g2⟩
  dsimp only at g1 g2 ⊢
  by_cases hj : j < st.length
  · obtain ⟨x, hx⟩ : ∃ x, st[j]? = some x := ⟨_, List.getElem?_eq_getElem hj⟩
    obtain ⟨b, off, cc, T, fr, rfl, e2, _, e4⟩ := hW.s.cells hx
    have r0 : ∀ o, o = off + j * 2 + 0 → rd false 1 cc.toList o = some (.string x.1) := fun o ho => e4 0 _ rfl o ho
    have r1 : ∀ o, o = off + j * 2 + 1 → rd false 1 cc.toList o = some (.string x.2) := fun o ho => e4 1 _ rfl o ho
    rw [lastK_drop hx] at g2
    by_cases he : x.1 = e.name
    · rw [if_pos he] at g2
      repeat' (first | refine zck ?_ | refine zcp (by kernel_rfl) ?_ | refine zcq PP_mixed (by kernel_rfl) (by kernel_rfl) ?_ | refine zcm ?_ | refine zcl ?_ | refine zcn ?_ | (refine zap rfl ?_; first | refine zad rfl (fun hF Γ w h1 h2 => e2 hF Γ w (fun p hp => h1 p (.tail _ (.tail _ hp))) h2) (r0 _ (by omega)) ?_ | refine zad rfl (fun hF Γ w h1 h2 => e2 hF Γ w (fun p hp => h1 p (.tail _ (.tail _ hp))) h2) (r1 _ (by omega)) ?_ | refine reg_eqST rfl rfl he ?_ | refine zan rfl ?_ | refine zan rfl ?_ | refine zaa 0 rfl rfl rfl ?_ | refine zaa 1 rfl rfl rfl ?_ | refine zce rfl ?_ | refine zao rfl ?_ | refine zbg rfl rfl (by omega) ?_ | refine zau rfl rfl (by omega) ?_ | refine zas rfl rfl (by omega) ?_ | refine zat rfl rfl (by omega) ?_) | refine zch ?_ | refine zci rfl ?_)
      exact cut_end ⟨rfl, (j + 1, some x.2), ⟨rfl, rfl, rfl, rfl, rfl, int_eq (by dsimp only; omega), trivial⟩, ⟨rfl, by dsimp only; omega, g2⟩, by dsimp only; omega⟩
    · rw [if_neg he] at g2
      repeat' (first | refine zck ?_ | refine zcp (by kernel_rfl) ?_ | refine zcq PP_mixed (by kernel_rfl) (by kernel_rfl) ?_ | refine zcm ?_ | refine zcl ?_ | refine zcn ?_ | (refine zap rfl ?_; first | refine zad rfl (fun hF Γ w h1 h2 => e2 hF Γ w (fun p hp => h1 p (.tail _ (.tail _ hp))) h2) (r0 _ (by omega)) ?_ | refine reg_eqSF rfl rfl he ?_ | refine zan rfl ?_ | refine zan rfl ?_ | refine zaa 0 rfl rfl rfl ?_ | refine zaa 1 rfl rfl rfl ?_ | refine zce rfl ?_ | refine zao rfl ?_ | refine zbg rfl rfl (by omega) ?_ | refine zau rfl rfl (by omega) ?_ | refine zas rfl rfl (by omega) ?_ | refine zat rfl rfl (by omega) ?_) | refine zch ?_ | refine zci rfl ?_ | refine zcj rfl ?_)
      exact cut_end ⟨rfl, (j + 1, o), ⟨rfl, rfl, rfl, rfl, rfl, int_eq (by dsimp only; omega), trivial⟩, ⟨rfl, by dsimp only; omega, g2⟩, by dsimp only; omega⟩
  rw [List.drop_of_length_le (by omega), lastK] at g2
  rw [← g2] at hR
  repeat (first | refine zck ?_ | refine zcl ?_ | refine zcm ?_ | refine zcn ?_)
  first | refine zcp (by kernel_rfl) ?_ | refine zcq PP_mixed (by kernel_rfl) (by kernel_rfl) ?_
  repeat' (refine zap rfl ?_; first | refine zan rfl ?_ | refine zaa 1 rfl rfl rfl ?_ | refine zce rfl ?_ | refine zao rfl ?_ | refine zbh rfl rfl (by omega) ?_)
  all_goals refine zch ?_
  all_goals repeat (first | refine zck ?_ | refine zcl ?_ | refine zcm ?_ | refine zcn ?_)
  refine zcj rfl ?_
  refine cut_exit rfl rfl ?_
  cases o with
  | none =>
    dsimp only at hR
    subst hR
    repeat' (first | refine zck ?_ | refine zcp (by kernel_rfl) ?_ | (refine zap rfl ?_; first | refine zan rfl ?_ | refine zan rfl ?_ | refine zbx rfl ?_) | refine zch ?_ | refine zci rfl ?_)
    exact ret_tmp1 rfl ⟨rfl, rfl⟩
  | some nm =>
  dsimp only at hR
  dsimp only [Option.getD, Option.isSome]
  have hin := in_spec w0 sh _ ctNames nm hW.k (by decide)
  repeat (first | refine zck ?_ | refine zcl ?_ | refine zcm ?_ | refine zcn ?_)
  first | refine zcp (by kernel_rfl) ?_ | refine zcq PP_mixed (by kernel_rfl) (by kernel_rfl) ?_
  repeat' (refine zap rfl ?_; first | refine zan rfl ?_ | refine zbx rfl ?_)
  all_goals refine zch ?_
  all_goals repeat (first | refine zck ?_ | refine zcl ?_ | refine zcm ?_ | refine zcn ?_)
  refine zcj rfl ?_
  cases hq : inS ctNames nm with
  | false =>
    rw [hq] at hin
    rw [hq, if_pos rfl] at hR
    subst hR
    repeat (first | refine zck ?_ | refine zcl ?_ | refine zcm ?_ | refine zcn ?_)
    first | refine zcp (by kernel_rfl) ?_ | refine zcq PP_mixed (by kernel_rfl) (by kernel_rfl) ?_
    repeat' (refine zap rfl ?_; first | refine zan rfl ?_ | refine zaa 1 rfl rfl rfl ?_ | refine zah [] hin rfl rfl rfl (fun p hp => .tail _ (.tail _ hp)) rfl ?_ | refine zao rfl ?_ | refine zbx rfl ?_)
    all_goals refine zch ?_
    all_goals repeat (first | refine zck ?_ | refine zcl ?_ | refine zcm ?_ | refine zcn ?_)
    refine zci rfl ?_
    repeat' (first | refine zck ?_ | refine zcp (by kernel_rfl) ?_ | (refine zap rfl ?_; first | refine zan rfl ?_) | refine zch ?_)
    exact ret_tmp1 rfl ⟨rfl, rfl⟩
  | true =>
  rw [hq] at hin
  rw [hq, if_neg (by decide)] at hR
  repeat (first | refine zck ?_ | refine zcl ?_ | refine zcm ?_ | refine zcn ?_)
  first | refine zcp (by kernel_rfl) ?_ | refine zcq PP_mixed (by kernel_rfl) (by kernel_rfl) ?_
  repeat' (refine zap rfl ?_; first | refine zan rfl ?_ | refine zaa 1 rfl rfl rfl ?_ | refine zah [] hin rfl rfl rfl (fun p hp => .tail _ (.tail _ hp)) rfl ?_ | refine zao rfl ?_ | refine zbx rfl ?_)
  all_goals refine zch ?_
  all_goals repeat (first | refine zck ?_ | refine zcl ?_ | refine zcm ?_ | refine zcn ?_)
  refine zcj rfl ?_
  repeat (first | refine zck ?_ | refine zcl ?_ | refine zcm ?_ | refine zcn ?_)
  first | refine zcp (by kernel_rfl) ?_ | refine zcq PP_mixed (by kernel_rfl) (by kernel_rfl) ?_
  repeat' (refine zap rfl ?_; first | refine zan rfl ?_)
  all_goals refine zch ?_
  all_goals repeat (first | refine zck ?_ | refine zcl ?_ | refine zcm ?_ | refine zcn ?_)
  refine run_loop (S := Nat) (fun s => [(2, .int .i64 n), (3, .pointer (some ⟨tw, 0, none⟩)), (4, .pointer (some ⟨te, 0, none⟩)), (7, .string nm), (10, .int .i64 (s : Int))])
    (fun s Γ => Γ = [] ∧ s ≤ ctA.length ∧ scanA nm e.meth (ctA.drop s) = scanA nm e.meth ctA) (fun s => ctA.length - s) 0 ⟨rfl, rfl, rfl, rfl, rfl, trivial⟩ ⟨rfl, Nat.zero_le _, rfl⟩ ?_
  rintro i Γ junk2 ⟨rfl, g3, g4⟩
  by_cases hi : i < ctA.length
  · obtain ⟨x, hx⟩ : ∃ x, ctA[i]? = some x := ⟨_, List.getElem?_eq_getElem hi⟩
    obtain ⟨b, off, cc, T, fr, rfl, e2, e3, _⟩ := hW.m.cells hx
    rw [scanA_drop hx] at g4
    repeat (first | refine zck ?_ | refine zcl ?_ | refine zcm ?_ | refine zcn ?_)
    first | refine zcp (by kernel_rfl) ?_ | refine zcq PP_mixed (by kernel_rfl) (by kernel_rfl) ?_
    repeat' (refine zap rfl ?_; first | refine zan rfl ?_ | refine zaa 1 rfl rfl rfl ?_ | refine zce rfl ?_ | refine zao rfl ?_ | refine zbg rfl rfl (by omega) ?_)
    all_goals refine zch ?_
    all_goals repeat (first | refine zck ?_ | refine zcl ?_ | refine zcm ?_ | refine zcn ?_)
    refine zci rfl ?_
    repeat (first | refine zck ?_ | refine zcl ?_ | refine zcm ?_ | refine zcn ?_)
    first | refine zcp (by kernel_rfl) ?_ | refine zcq PP_mixed (by kernel_rfl) (by kernel_rfl) ?_
    repeat' (refine zap rfl ?_; first | refine zad rfl (fun hF Γ w h1 h2 => e2 hF Γ w (fun p hp => h1 p (.tail _ (.tail _ hp))) h2) (e3 _ (by omega)) ?_ | refine zar (fun t11 => ?_) | refine zan rfl ?_ | refine zaa 1 rfl rfl rfl ?_ | refine zao rfl ?_ | refine zae 0 rfl rfl rfl rfl rfl rfl rfl ?_ | refine zas rfl rfl (by omega) ?_)
    all_goals refine zch ?_
    all_goals repeat (first | refine zck ?_ | refine zcl ?_ | refine zcm ?_ | refine zcn ?_)
    refine run_share [0] rfl ?_
    by_cases h1 : x.1 = nm
    rotate_left
    · rw [if_neg (fun q => h1 q.1)] at g4
      repeat (first | refine zck ?_ | refine zcl ?_ | refine zcm ?_ | refine zcn ?_)
      first | refine zcp (by kernel_rfl) ?_ | refine zcq PP_mixed (by kernel_rfl) (by kernel_rfl) ?_
      repeat' (refine zap rfl ?_; first | refine reg_eqSF rfl rfl h1 ?_ | refine zak rfl ?_ | refine zan rfl ?_ | refine zaa 0 rfl rfl rfl ?_ | refine zao rfl ?_ | refine zbv rfl ?_)
      all_goals refine zch ?_
      all_goals repeat (first | refine zck ?_ | refine zcl ?_ | refine zcm ?_ | refine zcn ?_)
      refine zcj rfl ?_
      repeat' (first | refine zcp (by kernel_rfl) ?_ | refine zcm ?_ | refine zcn ?_ | (refine zap rfl ?_; first | refine zan rfl ?_ | refine zan rfl ?_ | refine zau rfl rfl (by omega) ?_) | refine zch ?_)
      exact cut_end ⟨rfl, i + 1, ⟨rfl, rfl, rfl, rfl, int_eq (by omega), trivial⟩, ⟨rfl, by omega, g4⟩, by omega⟩
    by_cases h2 : x.2.1 = e.meth
    rotate_left
    · rw [if_neg (fun q => h2 q.2)] at g4
      repeat (first | refine zck ?_ | refine zcl ?_ | refine zcm ?_ | refine zcn ?_)
      first | refine zcp (by kernel_rfl) ?_ | refine zcq PP_mixed (by kernel_rfl) (by kernel_rfl) ?_
      repeat' (refine zap rfl ?_; first | refine reg_eqST rfl rfl h1 ?_ | refine reg_eqSF rfl rfl h2 ?_ | refine zaj rfl ?_ | refine zan rfl ?_ | refine zaa 0 rfl rfl rfl ?_ | refine zaa 1 rfl rfl rfl ?_ | refine zao rfl ?_ | refine zbu rfl ?_)
      all_goals refine zch ?_
      all_goals repeat (first | refine zck ?_ | refine zcl ?_ | refine zcm ?_ | refine zcn ?_)
      refine zcj rfl ?_
      repeat' (first | refine zcp (by kernel_rfl) ?_ | refine zcm ?_ | refine zcn ?_ | (refine zap rfl ?_; first | refine zan rfl ?_ | refine zan rfl ?_ | refine zau rfl rfl (by omega) ?_) | refine zch ?_)
      exact cut_end ⟨rfl, i + 1, ⟨rfl, rfl, rfl, rfl, int_eq (by omega), trivial⟩, ⟨rfl, by omega, g4⟩, by omega⟩
    rw [if_pos ⟨h1, h2⟩] at g4
    rw [← g4] at hR
    dsimp only at hR
    repeat (first | refine zck ?_ | refine zcl ?_ | refine zcm ?_ | refine zcn ?_)
    first | refine zcp (by kernel_rfl) ?_ | refine zcq PP_mixed (by kernel_rfl) (by kernel_rfl) ?_
    repeat' (refine zap rfl ?_; first | refine reg_eqST rfl rfl h1 ?_ | refine reg_eqST rfl rfl h2 ?_ | refine zaj rfl ?_ | refine zan rfl ?_ | refine zaa 0 rfl rfl rfl ?_ | refine zaa 1 rfl rfl rfl ?_ | refine zao rfl ?_ | refine zbu rfl ?_)
    all_goals refine zch ?_
    all_goals repeat (first | refine zck ?_ | refine zcl ?_ | refine zcm ?_ | refine zcn ?_)
    refine zci rfl ?_
    by_cases hn : x.2.2 = n
    · rw [if_neg (fun q => q hn)] at hR
      subst hR
      repeat (first | refine zck ?_ | refine zcl ?_ | refine zcm ?_ | refine zcn ?_)
      first | refine zcp (by kernel_rfl) ?_ | refine zcq PP_mixed (by kernel_rfl) (by kernel_rfl) ?_
      repeat' (refine zap rfl ?_; first | refine zan rfl ?_ | refine zaa 0 rfl rfl rfl ?_ | refine zao rfl ?_ | refine zbf rfl rfl (by omega) ?_)
      all_goals refine zch ?_
      all_goals repeat (first | refine zck ?_ | refine zcl ?_ | refine zcm ?_ | refine zcn ?_)
      refine zcj rfl ?_
      repeat' (first | refine zck ?_ | refine zcp (by kernel_rfl) ?_ | refine zcm ?_ | (refine zap rfl ?_; first | refine zan rfl ?_) | refine zch ?_)
      exact qret1 (fun _ _ h => h) rfl ⟨rfl, rfl⟩
    · rw [if_pos hn] at hR
      subst hR
      repeat (first | refine zck ?_ | refine zcl ?_ | refine zcm ?_ | refine zcn ?_)
      first | refine zcp (by kernel_rfl) ?_ | refine zcq PP_mixed (by kernel_rfl) (by kernel_rfl) ?_
      repeat' (refine zap rfl ?_; first | refine zan rfl ?_ | refine zaa 0 rfl rfl rfl ?_ | refine zao rfl ?_ | refine zbe rfl rfl (by omega) ?_)
      all_goals refine zch ?_
      all_goals repeat (first | refine zck ?_ | refine zcl ?_ | refine zcm ?_ | refine zcn ?_)
      refine zci rfl ?_
      repeat' (first | refine zck ?_ | refine zcp (by kernel_rfl) ?_ | (refine zap rfl ?_; first | refine zan rfl ?_) | refine zch ?_)
      exact qret1 (fun _ _ h => h) rfl ⟨rfl, rfl⟩
  rw [List.drop_of_length_le (by omega), scanA] at g4
  rw [← g4] at hR
  dsimp only at hR
  subst hR
  repeat (first | refine zck ?_ | refine zcl ?_ | refine zcm ?_ | refine zcn ?_)
  first | refine zcp (by kernel_rfl) ?_ | refine zcq PP_mixed (by kernel_rfl) (by kernel_rfl) ?_
  repeat' (refine zap rfl ?_; first | refine zan rfl ?_ | refine zaa 1 rfl rfl rfl ?_ | refine zce rfl ?_ | refine zao rfl ?_ | refine zbh rfl rfl (by omega) ?_)
  all_goals refine zch ?_
  all_goals repeat (first | refine zck ?_ | refine zcl ?_ | refine zcm ?_ | refine zcn ?_)
  refine zcj rfl ?_
  refine cut_exit rfl rfl ?_
  repeat' (first | refine zck ?_ | refine zcp (by kernel_rfl) ?_ | (refine zap rfl ?_; first | refine zan rfl ?_) | refine zch ?_)
  exact ret_tmp1 rfl ⟨rfl, rfl⟩
def RofS (w0 : World) (st : List (ByteArray × ByteArray)) (vs : TV) (n : Nat) : Prop := ∀ (sh : Shared) (ast akn aml av : Option Addr) (cst ckn cml cv : Nat) (e : PE) (va vo : Value), e.size ≤ n → RdW w0 sh (.slice ast st.length cst) (.slice akn ctNames.length ckn) (.slice aml ctA.length cml) st → RdSl w0 sh encT 2 (.slice av vs.length cv) vs → RdEl w0 sh va e.args → RdEl w0 sh vo e.or →
  FnE PP w0 sh 31 [.agg #[.slice ast st.length cst, .slice akn ctNames.length ckn, .slice aml ctA.length cml], .slice av vs.length cv, .agg (List.toArray (peC e.kind e.num e.name e.meth va vo))] [] (resT (ofE (envR st vs) e)) []
set_option maxHeartbeats 16000000 in
theorem ofR_step (w0 : World) (st : List (ByteArray × ByteArray)) (vs : TV) (hst : st.length ≤ 8796093022208) (hvs : vs.length ≤ 8796093022208) (n : Nat) (hn : n ≤ 100000) (hO : RofS w0 st vs n) : RofS w0 st vs (n + 1) := by
  intro sh ast akn aml av cst ckn cml cv e va vo hs hW hV ha ho
  have hsz := e.size_eq
  have la := PE.sizeL_len e.args
  have lo := PE.sizeL_len e.or
  obtain ⟨a1, c1, hva, _⟩ := ha.len
  obtain ⟨a2, c2, hvo, _⟩ := ho.len
  subst hva; subst hvo
  obtain ⟨R, hR⟩ : ∃ R, ofE (envR st vs) e = R := ⟨_, rfl⟩
  rw [hR]
  rw [ofE_eq] at hR
  have hsb : ∀ (a b : Nat × Obj), ∀ p ∈ sh, p ∈ a :: b :: sh := fun a b p hp => .tail _ (.tail _ hp)
  refine fn_of_run en31 fn31 rfl rfl rfl ?_
  repeat (first | refine zck ?_ | refine zcl ?_ | refine zcm ?_ | refine zcn ?_)
  first | refine zcp (by kernel_rfl) ?_ | refine zcq PP_mixed (by kernel_rfl) (by kernel_rfl) ?_
  repeat' (refine zap rfl ?_; first | refine zaq (cs := [_, _, _]) rfl (fun tw => ?_) | refine zaq (cs := [_, _, _, _, _, _]) rfl (fun te => ?_) | refine zan rfl ?_)
  all_goals refine zch ?_
  all_goals repeat (first | refine zck ?_ | refine zcl ?_ | refine zcm ?_ | refine zcn ?_)
  refine run_share [0] rfl ?_
  refine run_share [0] rfl ?_
  by_cases hk0 : e.kind < 0
  · rw [if_pos (.inl hk0)] at hR
    subst hR
    repeat (first | refine zck ?_ | refine zcl ?_ | refine zcm ?_ | refine zcn ?_)
    first | refine zcp (by kernel_rfl) ?_ | refine zcq PP_mixed (by kernel_rfl) (by kernel_rfl) ?_
    repeat' (refine zap rfl ?_; first | refine zak rfl ?_ | refine zan rfl ?_ | refine zaa 0 rfl rfl rfl ?_ | refine zao rfl ?_ | refine zbg rfl rfl (by omega) ?_ | refine zbu rfl ?_)
    all_goals refine zch ?_
    all_goals repeat (first | refine zck ?_ | refine zcl ?_ | refine zcm ?_ | refine zcn ?_)
    refine zci rfl ?_
    repeat' (first | refine zck ?_ | refine zcp (by kernel_rfl) ?_ | (refine zap rfl ?_; first | refine zan rfl ?_) | refine zch ?_)
    exact ret_tmp2 rfl ⟨rfl, rfl⟩
  by_cases hk7 : 7 < e.kind
  · rw [if_pos (.inr hk7)] at hR
    subst hR
    repeat (first | refine zck ?_ | refine zcl ?_ | refine zcm ?_ | refine zcn ?_)
    first | refine zcp (by kernel_rfl) ?_ | refine zcq PP_mixed (by kernel_rfl) (by kernel_rfl) ?_
    repeat' (refine zap rfl ?_; first | refine zaj rfl ?_ | refine zan rfl ?_ | refine zaa 0 rfl rfl rfl ?_ | refine zao rfl ?_ | refine zbh rfl rfl (by omega) ?_ | refine zbk rfl rfl (by omega) ?_ | refine zbv rfl ?_)
    all_goals refine zch ?_
    all_goals repeat (first | refine zck ?_ | refine zcl ?_ | refine zcm ?_ | refine zcn ?_)
    refine zci rfl ?_
    repeat' (first | refine zck ?_ | refine zcp (by kernel_rfl) ?_ | (refine zap rfl ?_; first | refine zan rfl ?_) | refine zch ?_)
    exact ret_tmp2 rfl ⟨rfl, rfl⟩
  rw [if_neg (by omega)] at hR
  repeat (first | refine zck ?_ | refine zcl ?_ | refine zcm ?_ | refine zcn ?_)
  first | refine zcp (by kernel_rfl) ?_ | refine zcq PP_mixed (by kernel_rfl) (by kernel_rfl) ?_
  repeat' (refine zap rfl ?_; first | refine zaj rfl ?_ | refine zan rfl ?_ | refine zaa 0 rfl rfl rfl ?_ | refine zao rfl ?_ | refine zbh rfl rfl (by omega) ?_ | refine zbl rfl rfl (by omega) ?_ | refine zbv rfl ?_)
  all_goals refine zch ?_
  all_goals repeat (first | refine zck ?_ | refine zcl ?_ | refine zcm ?_ | refine zcn ?_)
  refine zcj rfl ?_
  have hform := formR_spec w0 sh e _ _ ha ho
  cases hf : formT e with
  | false =>
    rw [hf] at hform
    rw [if_pos hf] at hR
    subst hR
    repeat (first | refine zck ?_ | refine zcl ?_ | refine zcm ?_ | refine zcn ?_)
    first | refine zcp (by kernel_rfl) ?_ | refine zcq PP_mixed (by kernel_rfl) (by kernel_rfl) ?_
    repeat' (refine zap rfl ?_; first | refine zaa 0 rfl rfl rfl ?_ | refine zah [] hform rfl rfl rfl (hsb _ _) rfl ?_ | refine zbx rfl ?_)
    all_goals refine zch ?_
    all_goals repeat (first | refine zck ?_ | refine zcl ?_ | refine zcm ?_ | refine zcn ?_)
    refine zci rfl ?_
    repeat' (first | refine zck ?_ | refine zcp (by kernel_rfl) ?_ | (refine zap rfl ?_; first | refine zan rfl ?_) | refine zch ?_)
    exact ret_tmp2 rfl ⟨rfl, rfl⟩
  | true =>
  rw [hf] at hform
  rw [if_neg (by rw [hf]; decide)] at hR
  repeat (first | refine zck ?_ | refine zcl ?_ | refine zcm ?_ | refine zcn ?_)
  first | refine zcp (by kernel_rfl) ?_ | refine zcq PP_mixed (by kernel_rfl) (by kernel_rfl) ?_
  repeat' (refine zap rfl ?_; first | refine zaa 0 rfl rfl rfl ?_ | refine zah [] hform rfl rfl rfl (hsb _ _) rfl ?_ | refine zbx rfl ?_)
  all_goals refine zch ?_
  all_goals repeat (first | refine zck ?_ | refine zcl ?_ | refine zcm ?_ | refine zcn ?_)
  refine zcj rfl ?_
  repeat (first | refine zck ?_ | refine zcl ?_ | refine zcm ?_ | refine zcn ?_)
  first | refine zcp (by kernel_rfl) ?_ | refine zcq PP_mixed (by kernel_rfl) (by kernel_rfl) ?_
  repeat' (refine zap rfl ?_; first | refine zan rfl ?_)
  all_goals refine zch ?_
  all_goals repeat (first | refine zck ?_ | refine zcl ?_ | refine zcm ?_ | refine zcn ?_)
  refine run_nilslice 3 1 ?_
  repeat (first | refine zck ?_ | refine zcl ?_ | refine zcm ?_ | refine zcn ?_)
  first | refine zcp (by kernel_rfl) ?_ | refine zcq PP_mixed (by kernel_rfl) (by kernel_rfl) ?_
  repeat' (refine zap rfl ?_; first | refine zan rfl ?_)
  all_goals refine zch ?_
  all_goals repeat (first | refine zck ?_ | refine zcl ?_ | refine zcm ?_ | refine zcn ?_)
  refine run_loop (S := Nat × Option Addr × Nat × List Int) (fun s => [(1, .slice av vs.length cv), (3, .pointer (some ⟨tw, 0, none⟩)), (5, .pointer (some ⟨te, 0, none⟩)), (8, .slice s.2.1 s.2.2.2.length s.2.2.1), (9, .int .i64 (s.1 : Int))])
    (fun s Γ => Γ = [SlA 3 1 s.2.1 s.2.2.2.length s.2.2.1 (intsV s.2.2.2)] ∧ s.1 ≤ e.args.length ∧ s.2.2.2.length = s.1 ∧ ofEs (envR st vs) e.args = (s.2.2.2 ++ (ofEs (envR st vs) (e.args.drop s.1)).1, (ofEs (envR st vs) (e.args.drop s.1)).2)) (fun s => e.args.length - s.1) (0, none, 0, [])
    ⟨rfl, rfl, rfl, rfl, rfl, trivial⟩ ⟨rfl, Nat.zero_le _, rfl, rfl⟩ ?_
  rintro ⟨j, a, c, ts⟩ Γ junk ⟨rfl, g1, g2, g3⟩
  dsimp only at g1 g2 g3 ⊢
  by_cases hj : j < e.args.length
  · obtain ⟨x, hx⟩ : ∃ x, e.args[j]? = some x := ⟨_, List.getElem?_eq_getElem hj⟩
    obtain ⟨b, off, cc, T, fr, cs, rfl, e2, e3, e4, _⟩ := ha.at hx
    obtain ⟨va', vo', rfl, r1, r2⟩ := e4.cs
    have hcall := hO sh ast akn aml av cst ckn cml cv x va' vo' (by have := PE.size_args (List.mem_of_getElem? hx); omega) hW hV r1 r2
    rw [ofEs_drop hx] at g3
    generalize ofE (envR st vs) x = X at *
    obtain ⟨tx, cx⟩ := X
    dsimp only at g3 hcall
    repeat (first | refine zck ?_ | refine zcl ?_ | refine zcm ?_ | refine zcn ?_)
    first | refine zcp (by kernel_rfl) ?_ | refine zcq PP_mixed (by kernel_rfl) (by kernel_rfl) ?_
    repeat' (refine zap rfl ?_; first | refine zan rfl ?_ | refine zaa 0 rfl rfl rfl ?_ | refine zce rfl ?_ | refine zao rfl ?_ | refine zbg rfl rfl (by omega) ?_)
    all_goals refine zch ?_
    all_goals repeat (first | refine zck ?_ | refine zcl ?_ | refine zcm ?_ | refine zcn ?_)
    refine zci rfl ?_
    repeat (first | refine zck ?_ | refine zcl ?_ | refine zcm ?_ | refine zcn ?_)
    first | refine zcp (by kernel_rfl) ?_ | refine zcq PP_mixed (by kernel_rfl) (by kernel_rfl) ?_
    repeat' (refine zap rfl ?_; first | refine zad rfl (fun hF Γ w h1 h2 => e2 hF Γ w (fun p hp => h1 p (.tail _ (.tail _ hp))) h2) (e3 _ (by omega)) ?_ | refine zan rfl ?_ | refine zan rfl ?_ | refine zaa 0 rfl rfl rfl ?_ | refine zaa 1 rfl rfl rfl ?_ | refine zah [] hcall rfl rfl rfl (fun p hp => .tail _ (.tail _ hp)) rfl ?_ | refine zao rfl ?_ | refine zan rfl ?_ | refine zas rfl rfl (by omega) ?_)
    all_goals refine zch ?_
    all_goals repeat (first | refine zck ?_ | refine zcl ?_ | refine zcm ?_ | refine zcn ?_)
    by_cases hcx : cx = 0
    rotate_left
    · rw [if_pos hcx] at g3
      rw [g3] at hR
      dsimp only at hR
      rw [if_pos hcx] at hR
      subst hR
      repeat (first | refine zck ?_ | refine zcl ?_ | refine zcm ?_ | refine zcn ?_)
      first | refine zcp (by kernel_rfl) ?_ | refine zcq PP_mixed (by kernel_rfl) (by kernel_rfl) ?_
      repeat' (refine zap rfl ?_; first | refine zan rfl ?_ | refine zbe rfl rfl (by omega) ?_)
      all_goals refine zch ?_
      all_goals repeat (first | refine zck ?_ | refine zcl ?_ | refine zcm ?_ | refine zcn ?_)
      refine zci rfl ?_
      repeat (first | refine zck ?_ | refine zcl ?_ | refine zcm ?_ | refine zcn ?_)
      first | refine zcp (by kernel_rfl) ?_ | refine zcq PP_mixed (by kernel_rfl) (by kernel_rfl) ?_
      repeat' (refine zap rfl ?_; first | refine zan rfl ?_ | refine zan rfl ?_)
      all_goals refine zch ?_
      all_goals repeat (first | refine zck ?_ | refine zcl ?_ | refine zcm ?_ | refine zcn ?_)
      refine run_take [] rfl ?_
      exact qret2 (fun _ _ h => h) rfl ⟨rfl, rfl⟩
    rw [if_neg (fun q => q hcx)] at g3
    dsimp only at g3
    repeat (first | refine zck ?_ | refine zcl ?_ | refine zcm ?_ | refine zcn ?_)
    first | refine zcp (by kernel_rfl) ?_ | refine zcq PP_mixed (by kernel_rfl) (by kernel_rfl) ?_
    repeat' (refine zap rfl ?_; first | refine zan rfl ?_ | refine zbf rfl rfl (by omega) ?_)
    all_goals refine zch ?_
    all_goals repeat (first | refine zck ?_ | refine zcl ?_ | refine zcm ?_ | refine zcn ?_)
    refine zcj rfl ?_
    repeat (first | refine zck ?_ | refine zcl ?_ | refine zcm ?_ | refine zcn ?_)
    first | refine zcp (by kernel_rfl) ?_ | refine zcq PP_mixed (by kernel_rfl) (by kernel_rfl) ?_
    repeat' (refine zap rfl ?_; first | refine reg_buildSlice rfl rfl rfl rfl rfl rfl (fun nb9 => ?_) | refine zan rfl ?_ | refine zan rfl ?_ | refine reg_append 0 1 rfl rfl rfl rfl rfl rfl rfl rfl (by omega) (fun _ _ => rfl) (fun a5 c5 => ?_))
    all_goals refine zch ?_
    all_goals repeat (first | refine zck ?_ | refine zcl ?_ | refine zcm ?_ | refine zcn ?_)
    refine run_take [0] rfl ?_
    repeat' (first | refine zcp (by kernel_rfl) ?_ | (refine zap rfl ?_; first | refine zan rfl ?_ | refine zan rfl ?_ | refine zau rfl rfl (by omega) ?_) | refine zch ?_)
    refine cut_end ⟨rfl, (j + 1, a5, c5, ts ++ [tx]), ⟨rfl, rfl, rfl, by dsimp only; rw [List.length_append]; rfl, int_eq (by dsimp only; omega), trivial⟩, ⟨?_, by dsimp only; omega, by dsimp only; rw [List.length_append, g2]; rfl, ?_⟩, by dsimp only; omega⟩
    · dsimp only
      rw [List.length_append]
      unfold intsV
      rw [List.map_append]
      rfl
    · dsimp only
      rw [g3, List.append_assoc]
      rfl
  have hjl : j = e.args.length := by omega
  subst hjl
  rw [List.drop_of_length_le (Nat.le_refl _), ofEs, List.append_nil] at g3
  rw [g3] at hR
  dsimp only at hR
  rw [if_neg (fun q => q rfl)] at hR
  repeat (first | refine zck ?_ | refine zcl ?_ | refine zcm ?_ | refine zcn ?_)
  first | refine zcp (by kernel_rfl) ?_ | refine zcq PP_mixed (by kernel_rfl) (by kernel_rfl) ?_
  repeat' (refine zap rfl ?_; first | refine zan rfl ?_ | refine zaa 0 rfl rfl rfl ?_ | refine zce rfl ?_ | refine zao rfl ?_ | refine zbh rfl rfl (by omega) ?_)
  all_goals refine zch ?_
  all_goals repeat (first | refine zck ?_ | refine zcl ?_ | refine zcm ?_ | refine zcn ?_)
  refine zcj rfl ?_
  refine cut_exit rfl rfl ?_
  refine run_slR encI 0 (l := ts) rfl (by unfold intsV; clear g2 g3 hR; induction ts with | nil => rfl | cons x l ih => rw [List.map_cons, List.flatMap_cons, ih]; rfl) (fun _ _ => rfl) rfl rfl ?_
  refine run_shareB [0] rfl (fun bl hbl => ?_)
  repeat (first | refine zck ?_ | refine zcl ?_ | refine zcm ?_ | refine zcn ?_ | refine zco ?_)
  obtain ⟨SH, hSH⟩ : ∃ SH, SH = ((te, Obj.cells (List.toArray (peC e.kind e.num e.name e.meth (.slice a1 e.args.length c1) (.slice a2 e.or.length c2))) 62 (0, 0)) :: (tw, Obj.cells (List.toArray [Value.slice ast st.length cst, Value.slice akn ctNames.length ckn, Value.slice aml ctA.length cml]) 53 (0, 0)) :: sh) ++ bl := ⟨_, rfl⟩
  have hs1 : ∀ p ∈ sh, p ∈ SH := fun p hp => by rw [hSH]; exact List.mem_append_left _ (.tail _ (.tail _ hp))
  have hs2 : ∀ p ∈ bl, p ∈ SH := fun p hp => by rw [hSH]; exact List.mem_append_right _ hp
  have hW2 := hW.mono hs1
  have hV2 := hV.mono hs1
  have ha2 := ha.mono hs1
  have ho2 := ho.mono hs1
  have hl2 := hbl.mono hs2
  have hn1 : ts.length ≤ 1000000 := by omega
  have k11 := allR_spec w0 SH _ ts 1 1 hl2 (by omega)
  have k22 := allR_spec w0 SH _ ts 2 2 hl2 (by omega)
  rcases (by omega : e.kind = 0 ∨ e.kind = 1 ∨ e.kind = 2 ∨ e.kind = 3 ∨ e.kind = 4 ∨ e.kind = 5 ∨ e.kind = 7 ∨ e.kind = 6) with hk | hk | hk | hk | hk | hk | hk | hk
  · rw [if_pos (.inr (by omega))] at hR
    have hru : ruleE (envR st vs) e ts = (1, 0) := by
      unfold ruleE
      rw [if_pos hk]
    rw [hru] at hR
    repeat (first | refine zck ?_ | refine zcl ?_ | refine zcm ?_ | refine zcn ?_)
    first | refine zcp (by kernel_rfl) ?_ | refine zcq PP_mixed (by kernel_rfl) (by kernel_rfl) ?_
    repeat' (refine zap rfl ?_; first | refine zaa 0 rfl rfl rfl ?_ | refine zao rfl ?_)
    all_goals refine zch ?_
    all_goals repeat (first | refine zck ?_ | refine zcl ?_ | refine zcm ?_ | refine zcn ?_)
    repeat (first | refine zck ?_ | refine zcl ?_ | refine zcm ?_ | refine zcn ?_)
    first | refine zcp (by kernel_rfl) ?_ | refine zcq PP_mixed (by kernel_rfl) (by kernel_rfl) ?_
    repeat' (refine zap rfl ?_; first | refine zan rfl ?_ | refine zbc rfl rfl (by omega) ?_)
    all_goals refine zch ?_
    all_goals repeat (first | refine zck ?_ | refine zcl ?_ | refine zcm ?_ | refine zcn ?_)
    refine zci rfl ?_
    subst hR
    repeat' (first | refine zck ?_ | refine zcp (by kernel_rfl) ?_ | (refine zap rfl ?_; first | refine zan rfl ?_) | refine zch ?_)
    refine run_take [] rfl ?_
    exact ret_tmp2 rfl ⟨rfl, rfl⟩
  · rw [if_pos (.inr (by omega))] at hR
    have hru : ruleE (envR st vs) e ts = (2, 0) := by
      unfold ruleE
      rw [if_neg (by omega), if_pos hk]
    rw [hru] at hR
    repeat (first | refine zck ?_ | refine zcl ?_ | refine zcm ?_ | refine zcn ?_)
    first | refine zcp (by kernel_rfl) ?_ | refine zcq PP_mixed (by kernel_rfl) (by kernel_rfl) ?_
    repeat' (refine zap rfl ?_; first | refine zaa 0 rfl rfl rfl ?_ | refine zao rfl ?_)
    all_goals refine zch ?_
    all_goals repeat (first | refine zck ?_ | refine zcl ?_ | refine zcm ?_ | refine zcn ?_)
    repeat (first | refine zck ?_ | refine zcl ?_ | refine zcm ?_ | refine zcn ?_)
    first | refine zcp (by kernel_rfl) ?_ | refine zcq PP_mixed (by kernel_rfl) (by kernel_rfl) ?_
    repeat' (refine zap rfl ?_; first | refine zan rfl ?_ | refine zbd rfl rfl (by omega) ?_)
    all_goals refine zch ?_
    all_goals repeat (first | refine zck ?_ | refine zcl ?_ | refine zcm ?_ | refine zcn ?_)
    refine zcj rfl ?_
    repeat (first | refine zck ?_ | refine zcl ?_ | refine zcm ?_ | refine zcn ?_)
    first | refine zcp (by kernel_rfl) ?_ | refine zcq PP_mixed (by kernel_rfl) (by kernel_rfl) ?_
    repeat' (refine zap rfl ?_; first | refine zan rfl ?_ | refine zbc rfl rfl (by omega) ?_)
    all_goals refine zch ?_
    all_goals repeat (first | refine zck ?_ | refine zcl ?_ | refine zcm ?_ | refine zcn ?_)
    refine zci rfl ?_
    subst hR
    repeat' (first | refine zck ?_ | refine zcp (by kernel_rfl) ?_ | (refine zap rfl ?_; first | refine zan rfl ?_) | refine zch ?_)
    refine run_take [] rfl ?_
    exact ret_tmp2 rfl ⟨rfl, rfl⟩
  · rw [if_pos (.inr (by omega))] at hR
    have hru : ruleE (envR st vs) e ts = if (envR st vs).vars e.name = 1 ∨ (envR st vs).vars e.name = 2 then ((envR st vs).vars e.name, 0) else (0, 16) := by
      unfold ruleE
      rw [if_neg (by omega), if_neg (by omega), if_pos hk]
    rw [hru] at hR
    repeat (first | refine zck ?_ | refine zcl ?_ | refine zcm ?_ | refine zcn ?_)
    first | refine zcp (by kernel_rfl) ?_ | refine zcq PP_mixed (by kernel_rfl) (by kernel_rfl) ?_
    repeat' (refine zap rfl ?_; first | refine zaa 0 rfl rfl rfl ?_ | refine zao rfl ?_)
    all_goals refine zch ?_
    all_goals repeat (first | refine zck ?_ | refine zcl ?_ | refine zcm ?_ | refine zcn ?_)
    repeat (first | refine zck ?_ | refine zcl ?_ | refine zcm ?_ | refine zcn ?_)
    first | refine zcp (by kernel_rfl) ?_ | refine zcq PP_mixed (by kernel_rfl) (by kernel_rfl) ?_
    repeat' (refine zap rfl ?_; first | refine zan rfl ?_ | refine zbd rfl rfl (by omega) ?_)
    all_goals refine zch ?_
    all_goals repeat (first | refine zck ?_ | refine zcl ?_ | refine zcm ?_ | refine zcn ?_)
    refine zcj rfl ?_
    repeat (first | refine zck ?_ | refine zcl ?_ | refine zcm ?_ | refine zcn ?_)
    first | refine zcp (by kernel_rfl) ?_ | refine zcq PP_mixed (by kernel_rfl) (by kernel_rfl) ?_
    repeat' (refine zap rfl ?_; first | refine zan rfl ?_ | refine zbd rfl rfl (by omega) ?_)
    all_goals refine zch ?_
    all_goals repeat (first | refine zck ?_ | refine zcl ?_ | refine zcm ?_ | refine zcn ?_)
    refine zcj rfl ?_
    repeat (first | refine zck ?_ | refine zcl ?_ | refine zcm ?_ | refine zcn ?_)
    first | refine zcp (by kernel_rfl) ?_ | refine zcq PP_mixed (by kernel_rfl) (by kernel_rfl) ?_
    repeat' (refine zap rfl ?_; first | refine zan rfl ?_ | refine zbc rfl rfl (by omega) ?_)
    all_goals refine zch ?_
    all_goals repeat (first | refine zck ?_ | refine zcl ?_ | refine zcm ?_ | refine zcn ?_)
    refine zci rfl ?_
    have hty := typeR_spec w0 SH _ vs e.name hV2 (by omega)
    rw [show (envR st vs).vars e.name = typT vs e.name from rfl] at hR
    generalize typT vs e.name = T at *
    by_cases t1 : T = 1
    · rw [if_pos (.inl t1)] at hR
      subst hR
      repeat (first | refine zck ?_ | refine zcl ?_ | refine zcm ?_ | refine zcn ?_)
      first | refine zcp (by kernel_rfl) ?_ | refine zcq PP_mixed (by kernel_rfl) (by kernel_rfl) ?_
      repeat' (refine zap rfl ?_; first | refine zan rfl ?_ | refine zan rfl ?_ | refine zaa 0 rfl rfl rfl ?_ | refine zah [] hty rfl rfl rfl (fun p hp => by rw [hSH] at hp; exact hp) rfl ?_ | refine zce rfl ?_ | refine zao rfl ?_)
      all_goals refine zch ?_
      all_goals repeat (first | refine zck ?_ | refine zcl ?_ | refine zcm ?_ | refine zcn ?_)
      repeat' (first | refine zck ?_ | refine zcp (by kernel_rfl) ?_ | refine zcm ?_ | (refine zap rfl ?_; first | refine zak rfl ?_ | refine zan rfl ?_ | refine zan rfl ?_ | refine zbf rfl rfl (by omega) ?_ | refine zbv rfl ?_) | refine zch ?_ | refine zcj rfl ?_)
      exact ret_tmp2 rfl ⟨rfl, rfl⟩
    by_cases t2 : T = 2
    · rw [if_pos (.inr t2)] at hR
      subst hR
      repeat (first | refine zck ?_ | refine zcl ?_ | refine zcm ?_ | refine zcn ?_)
      first | refine zcp (by kernel_rfl) ?_ | refine zcq PP_mixed (by kernel_rfl) (by kernel_rfl) ?_
      repeat' (refine zap rfl ?_; first | refine zan rfl ?_ | refine zan rfl ?_ | refine zaa 0 rfl rfl rfl ?_ | refine zah [] hty rfl rfl rfl (fun p hp => by rw [hSH] at hp; exact hp) rfl ?_ | refine zce rfl ?_ | refine zao rfl ?_)
      all_goals refine zch ?_
      all_goals repeat (first | refine zck ?_ | refine zcl ?_ | refine zcm ?_ | refine zcn ?_)
      repeat' (first | refine zck ?_ | refine zcp (by kernel_rfl) ?_ | refine zcm ?_ | (refine zap rfl ?_; first | refine zaj rfl ?_ | refine zan rfl ?_ | refine zan rfl ?_ | refine zbe rfl rfl (by omega) ?_ | refine zbf rfl rfl (by omega) ?_ | refine zbu rfl ?_) | refine zch ?_ | refine zcj rfl ?_)
      exact ret_tmp2 rfl ⟨rfl, rfl⟩
    · rw [if_neg (by omega)] at hR
      subst hR
      repeat (first | refine zck ?_ | refine zcl ?_ | refine zcm ?_ | refine zcn ?_)
      first | refine zcp (by kernel_rfl) ?_ | refine zcq PP_mixed (by kernel_rfl) (by kernel_rfl) ?_
      repeat' (refine zap rfl ?_; first | refine zan rfl ?_ | refine zan rfl ?_ | refine zaa 0 rfl rfl rfl ?_ | refine zah [] hty rfl rfl rfl (fun p hp => by rw [hSH] at hp; exact hp) rfl ?_ | refine zce rfl ?_ | refine zao rfl ?_)
      all_goals refine zch ?_
      all_goals repeat (first | refine zck ?_ | refine zcl ?_ | refine zcm ?_ | refine zcn ?_)
      repeat' (first | refine zck ?_ | refine zcp (by kernel_rfl) ?_ | (refine zap rfl ?_; first | refine zaj rfl ?_ | refine zan rfl ?_ | refine zan rfl ?_ | refine zbe rfl rfl (by omega) ?_ | refine zbu rfl ?_) | refine zch ?_ | refine zci rfl ?_)
      exact ret_tmp2 rfl ⟨rfl, rfl⟩
  · rw [if_pos (.inr (by omega))] at hR
    have hru : ruleE (envR st vs) e ts = tEach ts 2 := by
      unfold ruleE
      rw [if_neg (by omega), if_neg (by omega), if_neg (by omega), if_pos hk]
    rw [hru] at hR
    repeat (first | refine zck ?_ | refine zcl ?_ | refine zcm ?_ | refine zcn ?_)
    first | refine zcp (by kernel_rfl) ?_ | refine zcq PP_mixed (by kernel_rfl) (by kernel_rfl) ?_
    repeat' (refine zap rfl ?_; first | refine zaa 0 rfl rfl rfl ?_ | refine zao rfl ?_)
    all_goals refine zch ?_
    all_goals repeat (first | refine zck ?_ | refine zcl ?_ | refine zcm ?_ | refine zcn ?_)
    repeat (first | refine zck ?_ | refine zcl ?_ | refine zcm ?_ | refine zcn ?_)
    first | refine zcp (by kernel_rfl) ?_ | refine zcq PP_mixed (by kernel_rfl) (by kernel_rfl) ?_
    repeat' (refine zap rfl ?_; first | refine zan rfl ?_ | refine zbd rfl rfl (by omega) ?_)
    all_goals refine zch ?_
    all_goals repeat (first | refine zck ?_ | refine zcl ?_ | refine zcm ?_ | refine zcn ?_)
    refine zcj rfl ?_
    repeat (first | refine zck ?_ | refine zcl ?_ | refine zcm ?_ | refine zcn ?_)
    first | refine zcp (by kernel_rfl) ?_ | refine zcq PP_mixed (by kernel_rfl) (by kernel_rfl) ?_
    repeat' (refine zap rfl ?_; first | refine zan rfl ?_ | refine zbd rfl rfl (by omega) ?_)
    all_goals refine zch ?_
    all_goals repeat (first | refine zck ?_ | refine zcl ?_ | refine zcm ?_ | refine zcn ?_)
    refine zcj rfl ?_
    repeat (first | refine zck ?_ | refine zcl ?_ | refine zcm ?_ | refine zcn ?_)
    first | refine zcp (by kernel_rfl) ?_ | refine zcq PP_mixed (by kernel_rfl) (by kernel_rfl) ?_
    repeat' (refine zap rfl ?_; first | refine zan rfl ?_ | refine zbd rfl rfl (by omega) ?_)
    all_goals refine zch ?_
    all_goals repeat (first | refine zck ?_ | refine zcl ?_ | refine zcm ?_ | refine zcn ?_)
    refine zcj rfl ?_
    repeat (first | refine zck ?_ | refine zcl ?_ | refine zcm ?_ | refine zcn ?_)
    first | refine zcp (by kernel_rfl) ?_ | refine zcq PP_mixed (by kernel_rfl) (by kernel_rfl) ?_
    repeat' (refine zap rfl ?_; first | refine zan rfl ?_ | refine zbc rfl rfl (by omega) ?_)
    all_goals refine zch ?_
    all_goals repeat (first | refine zck ?_ | refine zcl ?_ | refine zcm ?_ | refine zcn ?_)
    refine zci rfl ?_
    unfold tEach at hR
    rw [← hR]
    repeat' (first | refine zck ?_ | refine zcp (by kernel_rfl) ?_ | (refine zap rfl ?_; first | refine zan rfl ?_ | refine zan rfl ?_ | refine zah [] k22 rfl rfl rfl (fun p hp => by rw [hSH] at hp; exact hp) rfl ?_ | refine zce rfl ?_ | refine zan rfl ?_) | refine zch ?_)
    refine run_take [] rfl ?_
    cases anyNe ts 2 <;> exact ret_tmp2 rfl ⟨rfl, rfl⟩
  · rw [if_pos (.inr (by omega))] at hR
    have hru : ruleE (envR st vs) e ts = tEach ts 1 := by
      unfold ruleE
      rw [if_neg (by omega), if_neg (by omega), if_neg (by omega), if_neg (by omega), if_pos hk]
    rw [hru] at hR
    repeat (first | refine zck ?_ | refine zcl ?_ | refine zcm ?_ | refine zcn ?_)
    first | refine zcp (by kernel_rfl) ?_ | refine zcq PP_mixed (by kernel_rfl) (by kernel_rfl) ?_
    repeat' (refine zap rfl ?_; first | refine zaa 0 rfl rfl rfl ?_ | refine zao rfl ?_)
    all_goals refine zch ?_
    all_goals repeat (first | refine zck ?_ | refine zcl ?_ | refine zcm ?_ | refine zcn ?_)
    repeat (first | refine zck ?_ | refine zcl ?_ | refine zcm ?_ | refine zcn ?_)
    first | refine zcp (by kernel_rfl) ?_ | refine zcq PP_mixed (by kernel_rfl) (by kernel_rfl) ?_
    repeat' (refine zap rfl ?_; first | refine zan rfl ?_ | refine zbd rfl rfl (by omega) ?_)
    all_goals refine zch ?_
    all_goals repeat (first | refine zck ?_ | refine zcl ?_ | refine zcm ?_ | refine zcn ?_)
    refine zcj rfl ?_
    repeat (first | refine zck ?_ | refine zcl ?_ | refine zcm ?_ | refine zcn ?_)
    first | refine zcp (by kernel_rfl) ?_ | refine zcq PP_mixed (by kernel_rfl) (by kernel_rfl) ?_
    repeat' (refine zap rfl ?_; first | refine zan rfl ?_ | refine zbd rfl rfl (by omega) ?_)
    all_goals refine zch ?_
    all_goals repeat (first | refine zck ?_ | refine zcl ?_ | refine zcm ?_ | refine zcn ?_)
    refine zcj rfl ?_
    repeat (first | refine zck ?_ | refine zcl ?_ | refine zcm ?_ | refine zcn ?_)
    first | refine zcp (by kernel_rfl) ?_ | refine zcq PP_mixed (by kernel_rfl) (by kernel_rfl) ?_
    repeat' (refine zap rfl ?_; first | refine zan rfl ?_ | refine zbd rfl rfl (by omega) ?_)
    all_goals refine zch ?_
    all_goals repeat (first | refine zck ?_ | refine zcl ?_ | refine zcm ?_ | refine zcn ?_)
    refine zcj rfl ?_
    repeat (first | refine zck ?_ | refine zcl ?_ | refine zcm ?_ | refine zcn ?_)
    first | refine zcp (by kernel_rfl) ?_ | refine zcq PP_mixed (by kernel_rfl) (by kernel_rfl) ?_
    repeat' (refine zap rfl ?_; first | refine zan rfl ?_ | refine zbd rfl rfl (by omega) ?_)
    all_goals refine zch ?_
    all_goals repeat (first | refine zck ?_ | refine zcl ?_ | refine zcm ?_ | refine zcn ?_)
    refine zcj rfl ?_
    repeat (first | refine zck ?_ | refine zcl ?_ | refine zcm ?_ | refine zcn ?_)
    first | refine zcp (by kernel_rfl) ?_ | refine zcq PP_mixed (by kernel_rfl) (by kernel_rfl) ?_
    repeat' (refine zap rfl ?_; first | refine zan rfl ?_ | refine zbc rfl rfl (by omega) ?_)
    all_goals refine zch ?_
    all_goals repeat (first | refine zck ?_ | refine zcl ?_ | refine zcm ?_ | refine zcn ?_)
    refine zci rfl ?_
    unfold tEach at hR
    rw [← hR]
    repeat' (first | refine zck ?_ | refine zcp (by kernel_rfl) ?_ | (refine zap rfl ?_; first | refine zan rfl ?_ | refine zan rfl ?_ | refine zah [] k11 rfl rfl rfl (fun p hp => by rw [hSH] at hp; exact hp) rfl ?_ | refine zce rfl ?_ | refine zan rfl ?_) | refine zch ?_)
    refine run_take [] rfl ?_
    cases anyNe ts 1 <;> exact ret_tmp2 rfl ⟨rfl, rfl⟩
  · rw [if_pos (.inr (by omega))] at hR
    have hru : ruleE (envR st vs) e ts = match signT e.meth with | none => (0, 17) | some (a, b) => if (a = 0 ∧ ts.getD 0 0 = ts.getD 1 0) ∨ (a ≠ 0 ∧ anyNe ts a = false) then (b, 0) else (0, 17) := by
      unfold ruleE
      rw [if_neg (by omega), if_neg (by omega), if_neg (by omega), if_neg (by omega), if_neg (by omega), if_pos hk]
      try (cases signT e.meth <;> rfl)
    rw [hru] at hR
    repeat (first | refine zck ?_ | refine zcl ?_ | refine zcm ?_ | refine zcn ?_)
    first | refine zcp (by kernel_rfl) ?_ | refine zcq PP_mixed (by kernel_rfl) (by kernel_rfl) ?_
    repeat' (refine zap rfl ?_; first | refine zaa 0 rfl rfl rfl ?_ | refine zao rfl ?_)
    all_goals refine zch ?_
    all_goals repeat (first | refine zck ?_ | refine zcl ?_ | refine zcm ?_ | refine zcn ?_)
    repeat (first | refine zck ?_ | refine zcl ?_ | refine zcm ?_ | refine zcn ?_)
    first | refine zcp (by kernel_rfl) ?_ | refine zcq PP_mixed (by kernel_rfl) (by kernel_rfl) ?_
    repeat' (refine zap rfl ?_; first | refine zan rfl ?_ | refine zbd rfl rfl (by omega) ?_)
    all_goals refine zch ?_
    all_goals repeat (first | refine zck ?_ | refine zcl ?_ | refine zcm ?_ | refine zcn ?_)
    refine zcj rfl ?_
    repeat (first | refine zck ?_ | refine zcl ?_ | refine zcm ?_ | refine zcn ?_)
    first | refine zcp (by kernel_rfl) ?_ | refine zcq PP_mixed (by kernel_rfl) (by kernel_rfl) ?_
    repeat' (refine zap rfl ?_; first | refine zan rfl ?_ | refine zbd rfl rfl (by omega) ?_)
    all_goals refine zch ?_
    all_goals repeat (first | refine zck ?_ | refine zcl ?_ | refine zcm ?_ | refine zcn ?_)
    refine zcj rfl ?_
    repeat (first | refine zck ?_ | refine zcl ?_ | refine zcm ?_ | refine zcn ?_)
    first | refine zcp (by kernel_rfl) ?_ | refine zcq PP_mixed (by kernel_rfl) (by kernel_rfl) ?_
    repeat' (refine zap rfl ?_; first | refine zan rfl ?_ | refine zbd rfl rfl (by omega) ?_)
    all_goals refine zch ?_
    all_goals repeat (first | refine zck ?_ | refine zcl ?_ | refine zcm ?_ | refine zcn ?_)
    refine zcj rfl ?_
    repeat (first | refine zck ?_ | refine zcl ?_ | refine zcm ?_ | refine zcn ?_)
    first | refine zcp (by kernel_rfl) ?_ | refine zcq PP_mixed (by kernel_rfl) (by kernel_rfl) ?_
    repeat' (refine zap rfl ?_; first | refine zan rfl ?_ | refine zbd rfl rfl (by omega) ?_)
    all_goals refine zch ?_
    all_goals repeat (first | refine zck ?_ | refine zcl ?_ | refine zcm ?_ | refine zcn ?_)
    refine zcj rfl ?_
    repeat (first | refine zck ?_ | refine zcl ?_ | refine zcm ?_ | refine zcn ?_)
    first | refine zcp (by kernel_rfl) ?_ | refine zcq PP_mixed (by kernel_rfl) (by kernel_rfl) ?_
    repeat' (refine zap rfl ?_; first | refine zan rfl ?_ | refine zbd rfl rfl (by omega) ?_)
    all_goals refine zch ?_
    all_goals repeat (first | refine zck ?_ | refine zcl ?_ | refine zcm ?_ | refine zcn ?_)
    refine zcj rfl ?_
    repeat (first | refine zck ?_ | refine zcl ?_ | refine zcm ?_ | refine zcn ?_)
    first | refine zcp (by kernel_rfl) ?_ | refine zcq PP_mixed (by kernel_rfl) (by kernel_rfl) ?_
    repeat' (refine zap rfl ?_; first | refine zan rfl ?_ | refine zbc rfl rfl (by omega) ?_)
    all_goals refine zch ?_
    all_goals repeat (first | refine zck ?_ | refine zcl ?_ | refine zcm ?_ | refine zcn ?_)
    refine zci rfl ?_
    have hform2 := hf
    unfold formT at hform2
    cases hsg : signT e.meth with
    | none => rw [if_pos ⟨hk, hsg⟩] at hform2; cases hform2
    | some ab =>
      obtain ⟨sa, sb⟩ := ab
      rw [if_neg (by rw [hsg]; rintro ⟨_, q⟩; cases q), if_neg (by omega), if_neg (by omega), if_pos hk, Bool.and_eq_true, decide_eq_true_eq] at hform2
      have hbin := binaryR_spec w0 SH _ e.meth ts sa sb hl2 (by omega) hsg
      rw [hsg] at hR
      dsimp only at hR
      rw [hR] at hbin
      repeat' (first | refine zck ?_ | refine zcp (by kernel_rfl) ?_ | (refine zap rfl ?_; first | refine zan rfl ?_ | refine zan rfl ?_ | refine zaa 0 rfl rfl rfl ?_ | refine zah [] hbin rfl rfl rfl (fun p hp => by rw [hSH] at hp; exact hp) rfl ?_ | refine zce rfl ?_ | refine zao rfl ?_ | refine zan rfl ?_) | refine zch ?_)
      refine run_take [] rfl ?_
      exact ret_tmp2 rfl ⟨rfl, rfl⟩
  · rw [if_pos (.inr (by omega))] at hR
    have hru : ruleE (envR st vs) e ts = tEach ts 1 := by
      unfold ruleE
      rw [if_neg (by omega), if_neg (by omega), if_neg (by omega), if_neg (by omega), if_neg (by omega), if_neg (by omega), if_neg (by omega)]
    rw [hru] at hR
    repeat (first | refine zck ?_ | refine zcl ?_ | refine zcm ?_ | refine zcn ?_)
    first | refine zcp (by kernel_rfl) ?_ | refine zcq PP_mixed (by kernel_rfl) (by kernel_rfl) ?_
    repeat' (refine zap rfl ?_; first | refine zaa 0 rfl rfl rfl ?_ | refine zao rfl ?_)
    all_goals refine zch ?_
    all_goals repeat (first | refine zck ?_ | refine zcl ?_ | refine zcm ?_ | refine zcn ?_)
    repeat (first | refine zck ?_ | refine zcl ?_ | refine zcm ?_ | refine zcn ?_)
    first | refine zcp (by kernel_rfl) ?_ | refine zcq PP_mixed (by kernel_rfl) (by kernel_rfl) ?_
    repeat' (refine zap rfl ?_; first | refine zan rfl ?_ | refine zbd rfl rfl (by omega) ?_)
    all_goals refine zch ?_
    all_goals repeat (first | refine zck ?_ | refine zcl ?_ | refine zcm ?_ | refine zcn ?_)
    refine zcj rfl ?_
    repeat (first | refine zck ?_ | refine zcl ?_ | refine zcm ?_ | refine zcn ?_)
    first | refine zcp (by kernel_rfl) ?_ | refine zcq PP_mixed (by kernel_rfl) (by kernel_rfl) ?_
    repeat' (refine zap rfl ?_; first | refine zan rfl ?_ | refine zbd rfl rfl (by omega) ?_)
    all_goals refine zch ?_
    all_goals repeat (first | refine zck ?_ | refine zcl ?_ | refine zcm ?_ | refine zcn ?_)
    refine zcj rfl ?_
    repeat (first | refine zck ?_ | refine zcl ?_ | refine zcm ?_ | refine zcn ?_)
    first | refine zcp (by kernel_rfl) ?_ | refine zcq PP_mixed (by kernel_rfl) (by kernel_rfl) ?_
    repeat' (refine zap rfl ?_; first | refine zan rfl ?_ | refine zbd rfl rfl (by omega) ?_)
    all_goals refine zch ?_
    all_goals repeat (first | refine zck ?_ | refine zcl ?_ | refine zcm ?_ | refine zcn ?_)
    refine zcj rfl ?_
    repeat (first | refine zck ?_ | refine zcl ?_ | refine zcm ?_ | refine zcn ?_)
    first | refine zcp (by kernel_rfl) ?_ | refine zcq PP_mixed (by kernel_rfl) (by kernel_rfl) ?_
    repeat' (refine zap rfl ?_; first | refine zan rfl ?_ | refine zbd rfl rfl (by omega) ?_)
    all_goals refine zch ?_
    all_goals repeat (first | refine zck ?_ | refine zcl ?_ | refine zcm ?_ | refine zcn ?_)
    refine zcj rfl ?_
    repeat (first | refine zck ?_ | refine zcl ?_ | refine zcm ?_ | refine zcn ?_)
    first | refine zcp (by kernel_rfl) ?_ | refine zcq PP_mixed (by kernel_rfl) (by kernel_rfl) ?_
    repeat' (refine zap rfl ?_; first | refine zan rfl ?_ | refine zbd rfl rfl (by omega) ?_)
    all_goals refine zch ?_
    all_goals repeat (first | refine zck ?_ | refine zcl ?_ | refine zcm ?_ | refine zcn ?_)
    refine zcj rfl ?_
    repeat (first | refine zck ?_ | refine zcl ?_ | refine zcm ?_ | refine zcn ?_)
    first | refine zcp (by kernel_rfl) ?_ | refine zcq PP_mixed (by kernel_rfl) (by kernel_rfl) ?_
    repeat' (refine zap rfl ?_; first | refine zan rfl ?_ | refine zbd rfl rfl (by omega) ?_)
    all_goals refine zch ?_
    all_goals repeat (first | refine zck ?_ | refine zcl ?_ | refine zcm ?_ | refine zcn ?_)
    refine zcj rfl ?_
    repeat (first | refine zck ?_ | refine zcl ?_ | refine zcm ?_ | refine zcn ?_)
    first | refine zcp (by kernel_rfl) ?_ | refine zcq PP_mixed (by kernel_rfl) (by kernel_rfl) ?_
    repeat' (refine zap rfl ?_; first | refine zan rfl ?_ | refine zbc rfl rfl (by omega) ?_)
    all_goals refine zch ?_
    all_goals repeat (first | refine zck ?_ | refine zcl ?_ | refine zcm ?_ | refine zcn ?_)
    refine zci rfl ?_
    unfold tEach at hR
    rw [← hR]
    repeat' (first | refine zck ?_ | refine zcp (by kernel_rfl) ?_ | (refine zap rfl ?_; first | refine zan rfl ?_ | refine zan rfl ?_ | refine zah [] k11 rfl rfl rfl (fun p hp => by rw [hSH] at hp; exact hp) rfl ?_ | refine zce rfl ?_ | refine zan rfl ?_) | refine zch ?_)
    refine run_take [] rfl ?_
    cases anyNe ts 1 <;> exact ret_tmp2 rfl ⟨rfl, rfl⟩
  · have hru : ruleE (envR st vs) e ts = if callT (envR st vs) e ts ≠ 0 then (0, callT (envR st vs) e ts) else (1, 0) := by
      unfold ruleE
      rw [if_neg (by omega), if_neg (by omega), if_neg (by omega), if_neg (by omega), if_neg (by omega), if_neg (by omega), if_pos hk]
    rw [hru, methR_call] at hR
    have hme := methodR_spec w0 SH ast akn aml cst ckn cml st e (.slice a1 e.args.length c1) (.slice a2 e.or.length c2) ts.length hW2 hst
    obtain ⟨M, hM⟩ : ∃ M, methR st e.name e.meth ts.length = M := ⟨_, rfl⟩
    rw [hM] at hR hme
    repeat (first | refine zck ?_ | refine zcl ?_ | refine zcm ?_ | refine zcn ?_)
    first | refine zcp (by kernel_rfl) ?_ | refine zcq PP_mixed (by kernel_rfl) (by kernel_rfl) ?_
    repeat' (refine zap rfl ?_; first | refine zaa 0 rfl rfl rfl ?_ | refine zao rfl ?_)
    all_goals refine zch ?_
    all_goals repeat (first | refine zck ?_ | refine zcl ?_ | refine zcm ?_ | refine zcn ?_)
    repeat (first | refine zck ?_ | refine zcl ?_ | refine zcm ?_ | refine zcn ?_)
    first | refine zcp (by kernel_rfl) ?_ | refine zcq PP_mixed (by kernel_rfl) (by kernel_rfl) ?_
    repeat' (refine zap rfl ?_; first | refine zan rfl ?_ | refine zbd rfl rfl (by omega) ?_)
    all_goals refine zch ?_
    all_goals repeat (first | refine zck ?_ | refine zcl ?_ | refine zcm ?_ | refine zcn ?_)
    refine zcj rfl ?_
    repeat (first | refine zck ?_ | refine zcl ?_ | refine zcm ?_ | refine zcn ?_)
    first | refine zcp (by kernel_rfl) ?_ | refine zcq PP_mixed (by kernel_rfl) (by kernel_rfl) ?_
    repeat' (refine zap rfl ?_; first | refine zan rfl ?_ | refine zbd rfl rfl (by omega) ?_)
    all_goals refine zch ?_
    all_goals repeat (first | refine zck ?_ | refine zcl ?_ | refine zcm ?_ | refine zcn ?_)
    refine zcj rfl ?_
    repeat (first | refine zck ?_ | refine zcl ?_ | refine zcm ?_ | refine zcn ?_)
    first | refine zcp (by kernel_rfl) ?_ | refine zcq PP_mixed (by kernel_rfl) (by kernel_rfl) ?_
    repeat' (refine zap rfl ?_; first | refine zan rfl ?_ | refine zbd rfl rfl (by omega) ?_)
    all_goals refine zch ?_
    all_goals repeat (first | refine zck ?_ | refine zcl ?_ | refine zcm ?_ | refine zcn ?_)
    refine zcj rfl ?_
    repeat (first | refine zck ?_ | refine zcl ?_ | refine zcm ?_ | refine zcn ?_)
    first | refine zcp (by kernel_rfl) ?_ | refine zcq PP_mixed (by kernel_rfl) (by kernel_rfl) ?_
    repeat' (refine zap rfl ?_; first | refine zan rfl ?_ | refine zbd rfl rfl (by omega) ?_)
    all_goals refine zch ?_
    all_goals repeat (first | refine zck ?_ | refine zcl ?_ | refine zcm ?_ | refine zcn ?_)
    refine zcj rfl ?_
    repeat (first | refine zck ?_ | refine zcl ?_ | refine zcm ?_ | refine zcn ?_)
    first | refine zcp (by kernel_rfl) ?_ | refine zcq PP_mixed (by kernel_rfl) (by kernel_rfl) ?_
    repeat' (refine zap rfl ?_; first | refine zan rfl ?_ | refine zbd rfl rfl (by omega) ?_)
    all_goals refine zch ?_
    all_goals repeat (first | refine zck ?_ | refine zcl ?_ | refine zcm ?_ | refine zcn ?_)
    refine zcj rfl ?_
    repeat (first | refine zck ?_ | refine zcl ?_ | refine zcm ?_ | refine zcn ?_)
    first | refine zcp (by kernel_rfl) ?_ | refine zcq PP_mixed (by kernel_rfl) (by kernel_rfl) ?_
    repeat' (refine zap rfl ?_; first | refine zan rfl ?_ | refine zbd rfl rfl (by omega) ?_)
    all_goals refine zch ?_
    all_goals repeat (first | refine zck ?_ | refine zcl ?_ | refine zcm ?_ | refine zcn ?_)
    refine zcj rfl ?_
    repeat (first | refine zck ?_ | refine zcl ?_ | refine zcm ?_ | refine zcn ?_)
    first | refine zcp (by kernel_rfl) ?_ | refine zcq PP_mixed (by kernel_rfl) (by kernel_rfl) ?_
    repeat' (refine zap rfl ?_; first | refine zan rfl ?_ | refine zbd rfl rfl (by omega) ?_)
    all_goals refine zch ?_
    all_goals repeat (first | refine zck ?_ | refine zcl ?_ | refine zcm ?_ | refine zcn ?_)
    refine zcj rfl ?_
    repeat (first | refine zck ?_ | refine zcl ?_ | refine zcm ?_ | refine zcn ?_)
    first | refine zcp (by kernel_rfl) ?_ | refine zcq PP_mixed (by kernel_rfl) (by kernel_rfl) ?_
    repeat' (refine zap rfl ?_; first | refine zan rfl ?_ | refine zan rfl ?_ | refine zaa 0 rfl rfl rfl ?_ | refine zaa 1 rfl rfl rfl ?_ | refine zce rfl ?_ | refine zah [] hme rfl rfl rfl (fun p hp => by rw [hSH] at hp; exact hp) rfl ?_ | refine zce rfl ?_ | refine zao rfl ?_)
    all_goals refine zch ?_
    all_goals repeat (first | refine zck ?_ | refine zcl ?_ | refine zcm ?_ | refine zcn ?_)
    by_cases hm : M = 0
    rotate_left
    · have hR : ((0 : Int), M) = R := by rw [← hR]; simp [hm]
      subst hR
      repeat (first | refine zck ?_ | refine zcl ?_ | refine zcm ?_ | refine zcn ?_)
      first | refine zcp (by kernel_rfl) ?_ | refine zcq PP_mixed (by kernel_rfl) (by kernel_rfl) ?_
      repeat' (refine zap rfl ?_; first | refine zan rfl ?_ | refine zbe rfl rfl (by omega) ?_)
      all_goals refine zch ?_
      all_goals repeat (first | refine zck ?_ | refine zcl ?_ | refine zcm ?_ | refine zcn ?_)
      refine zci rfl ?_
      repeat' (first | refine zck ?_ | refine zcp (by kernel_rfl) ?_ | (refine zap rfl ?_; first | refine zan rfl ?_ | refine zan rfl ?_) | refine zch ?_)
      refine run_take [] rfl ?_
      exact ret_tmp2 rfl ⟨rfl, rfl⟩
    repeat (first | refine zck ?_ | refine zcl ?_ | refine zcm ?_ | refine zcn ?_)
    first | refine zcp (by kernel_rfl) ?_ | refine zcq PP_mixed (by kernel_rfl) (by kernel_rfl) ?_
    repeat' (refine zap rfl ?_; first | refine zan rfl ?_ | refine zbf rfl rfl (by omega) ?_)
    all_goals refine zch ?_
    all_goals repeat (first | refine zck ?_ | refine zcl ?_ | refine zcm ?_ | refine zcn ?_)
    refine zcj rfl ?_
    cases hq : anyNe ts 1 with
    | true =>
      have hR : ((0 : Int), (17 : Int)) = R := by rw [← hR]; simp [hm, hq]
      subst hR
      rw [hq, if_pos rfl] at k11
      repeat (first | refine zck ?_ | refine zcl ?_ | refine zcm ?_ | refine zcn ?_)
      first | refine zcp (by kernel_rfl) ?_ | refine zcq PP_mixed (by kernel_rfl) (by kernel_rfl) ?_
      repeat' (refine zap rfl ?_; first | refine zan rfl ?_ | refine zan rfl ?_ | refine zah [] k11 rfl rfl rfl (fun p hp => by rw [hSH] at hp; exact hp) rfl ?_ | refine zce rfl ?_ | refine zan rfl ?_)
      all_goals refine zch ?_
      all_goals repeat (first | refine zck ?_ | refine zcl ?_ | refine zcm ?_ | refine zcn ?_)
      repeat (first | refine zck ?_ | refine zcl ?_ | refine zcm ?_ | refine zcn ?_)
      first | refine zcp (by kernel_rfl) ?_ | refine zcq PP_mixed (by kernel_rfl) (by kernel_rfl) ?_
      repeat' (refine zap rfl ?_; first | refine zan rfl ?_ | refine zbe rfl rfl (by omega) ?_)
      all_goals refine zch ?_
      all_goals repeat (first | refine zck ?_ | refine zcl ?_ | refine zcm ?_ | refine zcn ?_)
      refine zci rfl ?_
      repeat' (first | refine zck ?_ | refine zcp (by kernel_rfl) ?_ | (refine zap rfl ?_; first | refine zan rfl ?_ | refine zan rfl ?_) | refine zch ?_)
      refine run_take [] rfl ?_
      exact ret_tmp2 rfl ⟨rfl, rfl⟩
    | false =>
    have hR : (if ofOr (envR st vs) e.or ≠ 0 then ((0 : Int), ofOr (envR st vs) e.or) else (1, 0)) = R := by rw [← hR]; simp [hm, hq, hk]
    rw [hq, if_neg (by decide)] at k11
    repeat (first | refine zck ?_ | refine zcl ?_ | refine zcm ?_ | refine zcn ?_)
    first | refine zcp (by kernel_rfl) ?_ | refine zcq PP_mixed (by kernel_rfl) (by kernel_rfl) ?_
    repeat' (refine zap rfl ?_; first | refine zan rfl ?_ | refine zan rfl ?_ | refine zah [] k11 rfl rfl rfl (fun p hp => by rw [hSH] at hp; exact hp) rfl ?_ | refine zce rfl ?_ | refine zan rfl ?_)
    all_goals refine zch ?_
    all_goals repeat (first | refine zck ?_ | refine zcl ?_ | refine zcm ?_ | refine zcn ?_)
    repeat (first | refine zck ?_ | refine zcl ?_ | refine zcm ?_ | refine zcn ?_)
    first | refine zcp (by kernel_rfl) ?_ | refine zcq PP_mixed (by kernel_rfl) (by kernel_rfl) ?_
    repeat' (refine zap rfl ?_; first | refine zan rfl ?_ | refine zbf rfl rfl (by omega) ?_)
    all_goals refine zch ?_
    all_goals repeat (first | refine zck ?_ | refine zcl ?_ | refine zcm ?_ | refine zcn ?_)
    refine zcj rfl ?_
    have hor : e.or.length ≤ 1 := by
      have hform2 := hf
      unfold formT at hform2
      rw [if_neg (by rintro ⟨q, _⟩; omega), if_neg (by omega), if_neg (by omega), if_neg (by omega), if_pos hk, Bool.and_eq_true, decide_eq_true_eq, decide_eq_true_eq] at hform2
      exact hform2.2
    by_cases ho1 : e.or.length = 1
    · obtain ⟨x, hx⟩ : ∃ x, e.or[0]? = some x := ⟨_, List.getElem?_eq_getElem (by omega)⟩
      obtain ⟨b, off, cc, T, fr, cs, rfl, e2, e3, e4, _⟩ := ho2.at hx
      obtain ⟨va', vo', rfl, r1, r2⟩ := e4.cs
      have hcall := hO SH ast akn aml av cst ckn cml cv x va' vo' (by have := PE.size_or (List.mem_of_getElem? hx); omega) hW2 hV2 r1 r2
      have hos : e.or = [x] := by
        match hh : e.or, ho1 with
        | [y], _ => rw [hh] at hx; simp at hx; rw [hx]
      rw [hos, ofOr, ofOr] at hR
      generalize ofE (envR st vs) x = X at *
      obtain ⟨tx, cx⟩ := X
      dsimp only at hR hcall
      repeat (first | refine zck ?_ | refine zcl ?_ | refine zcm ?_ | refine zcn ?_)
      first | refine zcp (by kernel_rfl) ?_ | refine zcq PP_mixed (by kernel_rfl) (by kernel_rfl) ?_
      repeat' (refine zap rfl ?_; first | refine zaa 0 rfl rfl rfl ?_ | refine zce rfl ?_ | refine zao rfl ?_ | refine zbc rfl rfl (by omega) ?_)
      all_goals refine zch ?_
      all_goals repeat (first | refine zck ?_ | refine zcl ?_ | refine zcm ?_ | refine zcn ?_)
      refine zci rfl ?_
      repeat (first | refine zck ?_ | refine zcl ?_ | refine zcm ?_ | refine zcn ?_)
      first | refine zcp (by kernel_rfl) ?_ | refine zcq PP_mixed (by kernel_rfl) (by kernel_rfl) ?_
      repeat' (refine zap rfl ?_; first | refine zad rfl (fun hF Γ w h1 h2 => e2 hF Γ w (fun p hp => h1 p (by rw [hSH] at hp; exact hp)) h2) (e3 _ (by omega)) ?_ | refine zan rfl ?_ | refine zan rfl ?_ | refine zaa 0 rfl rfl rfl ?_ | refine zaa 1 rfl rfl rfl ?_ | refine zah [] hcall rfl rfl rfl (fun p hp => by rw [hSH] at hp; exact hp) rfl ?_ | refine zce rfl ?_ | refine zao rfl ?_ | refine zan rfl ?_ | refine zas rfl rfl (by omega) ?_)
      all_goals refine zch ?_
      all_goals repeat (first | refine zck ?_ | refine zcl ?_ | refine zcm ?_ | refine zcn ?_)
      by_cases hcx : cx = 0
      rotate_left
      · have hR : ((0 : Int), cx) = R := by rw [← hR]; simp [hcx]
        subst hR
        repeat (first | refine zck ?_ | refine zcl ?_ | refine zcm ?_ | refine zcn ?_)
        first | refine zcp (by kernel_rfl) ?_ | refine zcq PP_mixed (by kernel_rfl) (by kernel_rfl) ?_
        repeat' (refine zap rfl ?_; first | refine zan rfl ?_ | refine zbe rfl rfl (by omega) ?_)
        all_goals refine zch ?_
        all_goals repeat (first | refine zck ?_ | refine zcl ?_ | refine zcm ?_ | refine zcn ?_)
        refine zci rfl ?_
        repeat' (first | refine zck ?_ | refine zcp (by kernel_rfl) ?_ | (refine zap rfl ?_; first | refine zan rfl ?_ | refine zan rfl ?_) | refine zch ?_)
        refine run_take [] rfl ?_
        exact ret_tmp2 rfl ⟨rfl, rfl⟩
      repeat (first | refine zck ?_ | refine zcl ?_ | refine zcm ?_ | refine zcn ?_)
      first | refine zcp (by kernel_rfl) ?_ | refine zcq PP_mixed (by kernel_rfl) (by kernel_rfl) ?_
      repeat' (refine zap rfl ?_; first | refine zan rfl ?_ | refine zbf rfl rfl (by omega) ?_)
      all_goals refine zch ?_
      all_goals repeat (first | refine zck ?_ | refine zcl ?_ | refine zcm ?_ | refine zcn ?_)
      refine zcj rfl ?_
      by_cases htx : tx = 1
      · have hR : ((1 : Int), (0 : Int)) = R := by rw [← hR]; simp [hcx, htx]
        subst hR
        repeat (first | refine zck ?_ | refine zcl ?_ | refine zcm ?_ | refine zcn ?_)
        first | refine zcp (by kernel_rfl) ?_ | refine zcq PP_mixed (by kernel_rfl) (by kernel_rfl) ?_
        repeat' (refine zap rfl ?_; first | refine zan rfl ?_ | refine zbf rfl rfl (by omega) ?_)
        all_goals refine zch ?_
        all_goals repeat (first | refine zck ?_ | refine zcl ?_ | refine zcm ?_ | refine zcn ?_)
        refine zcj rfl ?_
        repeat' (first | refine zck ?_ | refine zcp (by kernel_rfl) ?_ | refine zcm ?_ | (refine zap rfl ?_; first | refine zan rfl ?_) | refine zch ?_)
        refine run_take [] rfl ?_
        exact ret_tmp2 rfl ⟨rfl, rfl⟩
      · have hR : ((0 : Int), (17 : Int)) = R := by rw [← hR]; simp [hcx, htx]
        subst hR
        repeat (first | refine zck ?_ | refine zcl ?_ | refine zcm ?_ | refine zcn ?_)
        first | refine zcp (by kernel_rfl) ?_ | refine zcq PP_mixed (by kernel_rfl) (by kernel_rfl) ?_
        repeat' (refine zap rfl ?_; first | refine zan rfl ?_ | refine zbe rfl rfl (by omega) ?_)
        all_goals refine zch ?_
        all_goals repeat (first | refine zck ?_ | refine zcl ?_ | refine zcm ?_ | refine zcn ?_)
        refine zci rfl ?_
        repeat' (first | refine zck ?_ | refine zcp (by kernel_rfl) ?_ | (refine zap rfl ?_; first | refine zan rfl ?_) | refine zch ?_)
        refine run_take [] rfl ?_
        exact ret_tmp2 rfl ⟨rfl, rfl⟩
    · have hos : e.or = [] := List.length_eq_zero_iff.1 (by omega)
      rw [hos, ofOr, if_neg (fun q => q rfl)] at hR
      subst hR
      repeat (first | refine zck ?_ | refine zcl ?_ | refine zcm ?_ | refine zcn ?_)
      first | refine zcp (by kernel_rfl) ?_ | refine zcq PP_mixed (by kernel_rfl) (by kernel_rfl) ?_
      repeat' (refine zap rfl ?_; first | refine zaa 0 rfl rfl rfl ?_ | refine zce rfl ?_ | refine zao rfl ?_ | refine zbd rfl rfl (by omega) ?_)
      all_goals refine zch ?_
      all_goals repeat (first | refine zck ?_ | refine zcl ?_ | refine zcm ?_ | refine zcn ?_)
      refine zcj rfl ?_
      repeat' (first | refine zck ?_ | refine zcp (by kernel_rfl) ?_ | refine zcm ?_ | (refine zap rfl ?_; first | refine zan rfl ?_) | refine zch ?_)
      refine run_take [] rfl ?_
      exact ret_tmp2 rfl ⟨rfl, rfl⟩
theorem ofR_spec (w0 : World) (st : List (ByteArray × ByteArray)) (vs : TV) (hst : st.length ≤ 8796093022208) (hvs : vs.length ≤ 8796093022208) : ∀ n, n ≤ 100000 → RofS w0 st vs n
  | 0, _ => fun sh ast akn aml av cst ckn cml cv e va vo h => by have := e.size_pos; omega
  | n + 1, hn => ofR_step w0 st vs hst hvs n (by omega) (ofR_spec w0 st vs hst hvs n (by omega))
theorem typesOfR_spec (w0 : World) (sh : Shared) (st : List (ByteArray × ByteArray)) (vs : TV) (hst : st.length ≤ 8796093022208) (hvs : vs.length ≤ 8796093022208) (ast akn aml av : Option Addr) (cst ckn cml cv : Nat) (e : PE) (va vo : Value) (hs : e.size ≤ 100000) (hW : RdW w0 sh (.slice ast st.length cst) (.slice akn ctNames.length ckn) (.slice aml ctA.length cml) st) (hV : RdSl w0 sh encT 2 (.slice av vs.length cv) vs) (ha : RdEl w0 sh va e.args) (ho : RdEl w0 sh vo e.or) :
    FnE PP w0 sh 17 [.agg #[.slice ast st.length cst, .slice akn ctNames.length ckn, .slice aml ctA.length cml], .slice av vs.length cv, .agg (List.toArray (peC e.kind e.num e.name e.meth va vo))] [] (resT (typeOf (envR st vs) e)) [] := by
  have hd := deepR_spec w0 13 (by omega) sh e va vo (by omega) ha ho
  have hof := ofR_spec w0 st vs hst hvs 100000 (Nat.le_refl _) sh ast akn aml av cst ckn cml cv e va vo hs hW hV ha ho
  have hle := deepN_le 13 e
  have hiff := deepB_iff 12 e
  unfold typeOf
  by_cases hq : deepB 12 e = true
  · rw [if_pos hq]
    have h13 : 13 ≤ deepN 13 e := hiff.1 hq
    refine fn_of_run en17 fn17 rfl rfl rfl ?_
    repeat (first | refine zck ?_ | refine zcl ?_ | refine zcm ?_ | refine zcn ?_)
    first | refine zcp (by kernel_rfl) ?_ | refine zcq PP_mixed (by kernel_rfl) (by kernel_rfl) ?_
    repeat' (refine zap rfl ?_; first | refine zan rfl ?_ | refine zaq (cs := [_, _, _]) rfl (fun nb => ?_) | refine zaq (cs := [_, _, _, _, _, _]) rfl (fun nb => ?_))
    all_goals refine zch ?_
    all_goals repeat (first | refine zck ?_ | refine zcl ?_ | refine zcm ?_ | refine zcn ?_)
    refine run_share [0] rfl ?_
    refine run_share [0] rfl ?_
    repeat' (first | refine zck ?_ | refine zcp (by kernel_rfl) ?_ | (refine zap rfl ?_; first | refine zan rfl ?_ | refine zaa 0 rfl rfl rfl ?_ | refine zah [] hd rfl rfl rfl (fun p hp => .tail _ (.tail _ hp)) rfl ?_ | refine zbk rfl rfl (by omega) ?_) | refine zch ?_ | refine zci rfl ?_)
    exact ret_tmp2 rfl ⟨rfl, rfl⟩
  · rw [if_neg hq]
    have h13 : ¬ 13 ≤ deepN 13 e := fun h => hq (hiff.2 h)
    refine fn_of_run en17 fn17 rfl rfl rfl ?_
    repeat (first | refine zck ?_ | refine zcl ?_ | refine zcm ?_ | refine zcn ?_)
    first | refine zcp (by kernel_rfl) ?_ | refine zcq PP_mixed (by kernel_rfl) (by kernel_rfl) ?_
    repeat' (refine zap rfl ?_; first | refine zan rfl ?_ | refine zaq (cs := [_, _, _]) rfl (fun nb => ?_) | refine zaq (cs := [_, _, _, _, _, _]) rfl (fun nb => ?_))
    all_goals refine zch ?_
    all_goals repeat (first | refine zck ?_ | refine zcl ?_ | refine zcm ?_ | refine zcn ?_)
    refine run_share [0] rfl ?_
    refine run_share [0] rfl ?_
    repeat' (first | refine zck ?_ | refine zcp (by kernel_rfl) ?_ | refine zcm ?_ | (refine zap rfl ?_; first | refine zan rfl ?_ | refine zan rfl ?_ | refine zaa 0 rfl rfl rfl ?_ | refine zaa 1 rfl rfl rfl ?_ | refine zah [] hd rfl rfl rfl (fun p hp => .tail _ (.tail _ hp)) rfl ?_ | refine zah [] hof rfl rfl rfl (fun p hp => .tail _ (.tail _ hp)) rfl ?_ | refine zan rfl ?_ | refine zbl rfl rfl (by omega) ?_) | refine zch ?_ | refine zcj rfl ?_)
    exact ret_tmp2 rfl ⟨rfl, rfl⟩
end Go.Proofs.YtijbnjaackhlcaaGreatDoor

namespace Sim
open Go Go.Vc
theorem tyS_mk (K : ByteArray → Option ByteArray) (k : Int) (a : ByteArray) (n : Int) (e : PE) (xs ys : List PS) (all there : TV) : tyS K (.mk k a n e xs ys) all there =
    if (oneT K all there (.mk k a n e xs ys)).2.2 ≠ 0 then oneT K all there (.mk k a n e xs ys) else
    if (tySs K xs (oneT K all there (.mk k a n e xs ys)).1 (oneT K all there (.mk k a n e xs ys)).2.1).2 ≠ 0 then ((tySs K xs (oneT K all there (.mk k a n e xs ys)).1 (oneT K all there (.mk k a n e xs ys)).2.1).1, (oneT K all there (.mk k a n e xs ys)).2.1, (tySs K xs (oneT K all there (.mk k a n e xs ys)).1 (oneT K all there (.mk k a n e xs ys)).2.1).2) else
    ((tySs K ys (tySs K xs (oneT K all there (.mk k a n e xs ys)).1 (oneT K all there (.mk k a n e xs ys)).2.1).1 (oneT K all there (.mk k a n e xs ys)).2.1).1, (oneT K all there (.mk k a n e xs ys)).2.1, (tySs K ys (tySs K xs (oneT K all there (.mk k a n e xs ys)).1 (oneT K all there (.mk k a n e xs ys)).2.1).1 (oneT K all there (.mk k a n e xs ys)).2.1).2) := by rw [tyS]
theorem tyS_eq (K : ByteArray → Option ByteArray) (s : PS) (all there all1 there1 : TV) (c : Int) (h : oneT K all there s = (all1, there1, c)) : tyS K s all there =
    if c ≠ 0 then (all1, there1, c) else
    if (tySs K s.body all1 there1).2 ≠ 0 then ((tySs K s.body all1 there1).1, there1, (tySs K s.body all1 there1).2) else
    ((tySs K s.els (tySs K s.body all1 there1).1 there1).1, there1, (tySs K s.els (tySs K s.body all1 there1).1 there1).2) := by
  obtain ⟨k, a, n, e, xs, ys⟩ := s
  rw [tyS_mk, h]
  rfl
theorem exT_ok {K : ByteArray → Option ByteArray} {there : TV} {s : PS} (h : (exT K there s).2 = 0) (hx : hasEx s.kind = true) : (exT K there s).1 = 1 ∨ (exT K there s).1 = 2 := by
  unfold exT at h ⊢
  rw [if_pos hx] at h ⊢
  rcases typeOf_ok (envT K there) s.expr with h1 | h1
  · exact h1.2
  · exact absurd h h1.1
structure TySt (all there : TV) : Prop where
  okA : okV all
  ndA : (all.map (·.1)).Nodup
  sub : ∀ v ∈ there, v ∈ all
  ndT : (there.map (·.1)).Nodup
theorem TySt.more {all there m : TV} (h : TySt all there) (h2 : okV (all ++ m)) (h3 : ((all ++ m).map (·.1)).Nodup) : TySt (all ++ m) there := ⟨h2, h3, fun v hv => List.mem_append_left _ (h.sub v hv), h.ndT⟩
theorem TySt.add {all there : TV} {n : ByteArray} {t : Int} (h : TySt all there) (ht : t = 1 ∨ t = 2) (hn : typT all n = 0) : TySt (all ++ [(n, t)]) (there ++ [(n, t)]) := by
  have hn := (typT_zero h.okA n).1 hn
  refine ⟨fun v hv => ?_, ?_, fun v hv => ?_, ?_⟩
  · rcases List.mem_append.1 hv with hv | hv
    · exact h.okA v hv
    · rw [List.mem_singleton.1 hv]; exact ht
  · rw [List.map_append, List.nodup_append]
    refine ⟨h.ndA, by simp, fun x hx y hy e => ?_⟩
    rw [List.map_singleton, List.mem_singleton] at hy
    have hy : y = n := hy
    exact hn (by rw [← hy, ← e]; exact hx)
  · rcases List.mem_append.1 hv with hv | hv
    · exact List.mem_append_left _ (h.sub v hv)
    · exact List.mem_append_right _ hv
  · rw [List.map_append, List.nodup_append]
    refine ⟨h.ndT, by simp, fun x hx y hy e => ?_⟩
    rw [List.map_singleton, List.mem_singleton] at hy
    have hy : y = n := hy
    obtain ⟨v, hv, rfl⟩ := List.mem_map.1 hx
    exact hn (by rw [← hy, ← e]; exact List.mem_map_of_mem (h.sub v hv))
theorem oneT_st {K : ByteArray → Option ByteArray} {all there : TV} {s : PS} (h : TySt all there) : ∃ m, (oneT K all there s).1 = all ++ m ∧ (oneT K all there s).2.1 = there ++ m ∧ TySt (all ++ m) (there ++ m) ∧ m.length ≤ 1 := by
  have h0 : ∃ m, all = all ++ m ∧ there = there ++ m ∧ TySt (all ++ m) (there ++ m) ∧ m.length ≤ 1 := ⟨[], (List.append_nil _).symm, (List.append_nil _).symm, by rw [List.append_nil, List.append_nil]; exact h, Nat.zero_le _⟩
  unfold oneT
  by_cases h1 : (exT K there s).2 = 0
  rotate_left
  · rw [if_pos h1]; exact h0
  rw [if_neg (fun q => q h1)]
  by_cases h2 : s.kind = 0
  · rw [if_pos h2]
    by_cases h3 : typT all s.name = 0
    · rw [if_neg (fun q => q h3)]
      exact ⟨_, rfl, rfl, h.add (exT_ok h1 (by rw [h2]; rfl)) h3, Nat.le_refl _⟩
    · rw [if_pos h3]; exact h0
  rw [if_neg h2]
  split
  · exact h0
  split
  · exact h0
  · exact h0
mutual
theorem tyS_st {K : ByteArray → Option ByteArray} : ∀ (s : PS) {all there : TV}, TySt all there → ∃ m m', (tyS K s all there).1 = all ++ m ∧ (tyS K s all there).2.1 = there ++ m' ∧ TySt (all ++ m) (there ++ m')
  | .mk k a n e xs ys, all, there, h => by
    obtain ⟨m, h1, h2, h3, _⟩ := oneT_st (K := K) (s := .mk k a n e xs ys) h
    rw [tyS_mk, h1, h2]
    split
    · exact ⟨m, m, h1, h2, h3⟩
    obtain ⟨m1, i1, i2⟩ := tySs_st xs h3
    rw [i1]
    split
    · exact ⟨m ++ m1, m, by rw [List.append_assoc], rfl, by rw [← List.append_assoc]; exact i2⟩
    obtain ⟨m2, j1, j2⟩ := tySs_st ys i2
    rw [j1]
    exact ⟨m ++ m1 ++ m2, m, by simp only [List.append_assoc], rfl, by simpa only [List.append_assoc] using j2⟩
theorem tySs_st {K : ByteArray → Option ByteArray} : ∀ (l : List PS) {all there : TV}, TySt all there → ∃ m, (tySs K l all there).1 = all ++ m ∧ TySt (all ++ m) there
  | [], all, there, h => ⟨[], by rw [tySs, List.append_nil], by rw [List.append_nil]; exact h⟩
  | s :: l, all, there, h => by
    obtain ⟨m, m', h1, h2, h3⟩ := tyS_st (K := K) s h
    rw [tySs, h1, h2]
    split
    · exact ⟨m, rfl, h3.okA, h3.ndA, fun v hv => List.mem_append_left _ (h.sub v hv), h.ndT⟩
    obtain ⟨m1, i1, i2⟩ := tySs_st l h3
    rw [i1]
    exact ⟨m ++ m1, by rw [List.append_assoc], by rw [← List.append_assoc]; exact ⟨i2.okA, i2.ndA, fun v hv => List.mem_append_left _ (List.mem_append_left _ (h.sub v hv)), h.ndT⟩⟩
end
theorem tySs_let {K : ByteArray → Option ByteArray} : ∀ {l : List PS} {all there : TV}, TySt all there → (tySs K l all there).2 = 0 → ∀ x ∈ l, x.kind = 0 → x.name ∉ all.map (·.1)
  | [], _, _, _, _, x, hx, _ => by simp at hx
  | s :: l, all, there, hst, h, x, hx, hk => by
    rw [tySs] at h
    by_cases h1 : (tyS K s all there).2.2 = 0
    rotate_left
    · rw [if_pos h1] at h; exact absurd h h1
    rw [if_neg (fun q => q h1)] at h
    rcases List.mem_cons.1 hx with rfl | hx
    · intro hm
      obtain ⟨k, a, n, e, xs, ys⟩ := x
      have hk : k = 0 := hk
      subst hk
      have hz : typT all a ≠ 0 := fun hq => (typT_zero hst.okA a).1 hq hm
      have ho : (oneT K all there (.mk 0 a n e xs ys)).2.2 ≠ 0 := by
        unfold oneT
        split
        · rename_i hq; exact hq
        · try rw [if_pos (show (PS.mk 0 a n e xs ys).kind = 0 from rfl)]
          rw [if_pos (show typT all (PS.mk 0 a n e xs ys).name ≠ 0 from hz)]
          show (11 : Int) ≠ 0; decide
      rw [tyS_mk, if_pos ho] at h1
      exact ho h1
    · obtain ⟨m, m', i1, i2, i3⟩ := tyS_st (K := K) s hst
      rw [i1, i2] at h
      have := tySs_let i3 h x hx hk
      intro hm
      exact this (by rw [List.map_append]; exact List.mem_append_left _ hm)
def goodO (o : PO) : Prop := freshN [] o.name [] = 0 ∧ o.params.length ≤ 4 ∧ freshAll [] o.params = 0 ∧ wrongSs o.body 1 = 0
theorem freshN_met {met more : List ByteArray} {s : ByteArray} : freshN met s more = 0 ↔ freshN [] s more = 0 ∧ inS met s = false := by
  unfold freshN
  split
  · exact ⟨fun h => by omega, fun h => by omega⟩
  · rw [if_neg (show ¬ inS [] s = true by simp [inS])]
    split
    · rename_i h; exact ⟨fun h => by omega, fun h2 => by rw [h2.2] at h; cases h⟩
    · rename_i h; exact ⟨fun _ => ⟨rfl, by simpa using h⟩, fun _ => rfl⟩
theorem wrongO_iff {met : List ByteArray} {o : PO} : wrongO met o = 0 ↔ goodO o ∧ inS met o.name = false := by
  unfold wrongO goodO
  by_cases h1 : freshN met o.name [] = 0
  · rw [if_neg (fun q => q h1)]
    have h1' := freshN_met.1 h1
    by_cases h2 : 4 < o.params.length
    · rw [if_pos h2]; exact ⟨fun h => by omega, fun h => by omega⟩
    rw [if_neg h2]
    by_cases h3 : freshAll [] o.params = 0
    · rw [if_neg (fun q => q h3)]
      exact ⟨fun h => ⟨⟨h1'.1, by omega, h3, h⟩, h1'.2⟩, fun h => h.1.2.2.2⟩
    · rw [if_pos h3]; exact ⟨fun h => absurd h h3, fun h => absurd h.1.2.2.1 h3⟩
  · rw [if_pos h1]; exact ⟨fun h => absurd h h1, fun h => absurd (freshN_met.2 ⟨h.1.1, h.2⟩) h1⟩
theorem inS_mem {l : List ByteArray} {s : ByteArray} : inS l s = false ↔ s ∉ l := by
  unfold inS
  rw [List.any_eq_false]
  exact ⟨fun h hm => h s hm (by simp), fun h x hx e => h (by simp at e; subst e; exact hx)⟩
theorem wrongOs_iff : ∀ {l : List PO} {met : List ByteArray}, wrongOs met l = 0 ↔ (∀ o ∈ l, goodO o) ∧ (l.map (·.name)).Nodup ∧ ∀ o ∈ l, o.name ∉ met
  | [], met => by simp [wrongOs]
  | x :: l, met => by
    rw [wrongOs]
    by_cases h : wrongO met x = 0
    · rw [if_neg (fun q => q h), wrongOs_iff]
      obtain ⟨h1, h2⟩ := wrongO_iff.1 h
      rw [inS_mem] at h2
      rw [List.map_cons, List.nodup_cons]
      constructor
      · rintro ⟨g1, g2, g3⟩
        refine ⟨fun o ho => ?_, ⟨fun hm => ?_, g2⟩, fun o ho => ?_⟩
        · rcases List.mem_cons.1 ho with rfl | ho
          · exact h1
          · exact g1 o ho
        · obtain ⟨o, ho, e⟩ := List.mem_map.1 hm
          exact g3 o ho (by rw [e]; exact List.mem_append_right _ (.head _))
        · rcases List.mem_cons.1 ho with rfl | ho
          · exact h2
          · exact fun hm => g3 o ho (List.mem_append_left _ hm)
      · rintro ⟨g1, ⟨g2, g3⟩, g4⟩
        refine ⟨fun o ho => g1 o (.tail _ ho), g3, fun o ho hm => ?_⟩
        rcases List.mem_append.1 hm with hm | hm
        · exact g4 o (.tail _ ho) hm
        · exact g2 (List.mem_map.2 ⟨o, ho, List.mem_singleton.1 hm⟩)
    · rw [if_pos h]
      refine ⟨fun q => absurd q h, fun ⟨g1, g2, g3⟩ => absurd (wrongO_iff.2 ⟨g1 x (.head _), inS_mem.2 (g3 x (.head _))⟩) h⟩
theorem checkP_iff {p : PP'} : checkP p = 0 ↔ p.stores.length ≤ 12 ∧ p.opers.length ≤ 32 ∧ wrongD [] p.stores = 0 ∧ (∀ o ∈ p.opers, goodO o) ∧ (p.opers.map (·.name)).Nodup := by
  constructor
  · intro h
    obtain ⟨h1, h2, h3, h4⟩ := checkP_zero h
    obtain ⟨g1, g2, _⟩ := wrongOs_iff.1 h4
    exact ⟨h1, h2, h3, g1, g2⟩
  · rintro ⟨h1, h2, h3, h4, h5⟩
    unfold checkP
    rw [if_neg (by omega), if_neg (fun q => q h3)]
    exact wrongOs_iff.2 ⟨h4, h5, fun _ _ h => by simp at h⟩
theorem freshAll_nodup : ∀ {l met : List ByteArray}, freshAll met l = 0 → l.Nodup ∧ ∀ s ∈ l, s ∉ met
  | [], _, _ => ⟨List.nodup_nil, fun _ h => by cases h⟩
  | s :: l, met, h => by
    rw [freshAll] at h
    by_cases h1 : freshN met s [] = 0
    · rw [if_neg (fun q => q h1)] at h
      obtain ⟨i1, i2⟩ := freshAll_nodup h
      have h2 := inS_mem.1 (freshN_met.1 h1).2
      refine ⟨List.nodup_cons.2 ⟨fun hm => i2 s hm (List.mem_append_right _ (.head _)), i1⟩, fun x hx => ?_⟩
      rcases List.mem_cons.1 hx with rfl | hx
      · exact h2
      · exact fun hm => i2 x hx (List.mem_append_left _ hm)
    · rw [if_pos h1] at h; exact absurd h h1
theorem parV_st {o : PO} (h : goodO o) : TySt (parV o) (parV o) := by
  have hn : ((parV o).map (·.1)).Nodup := by
    unfold parV
    rw [List.map_map]
    show (o.params.map fun n => n).Nodup
    rw [List.map_id']
    exact (freshAll_nodup h.2.2.1).1
  refine ⟨fun v hv => ?_, hn, fun v hv => hv, hn⟩
  obtain ⟨n, _, rfl⟩ := List.mem_map.1 hv
  exact .inl rfl
structure WellP (p : PP') : Prop where
  check : checkP p = 0
  kinds : ∀ d ∈ p.stores, ctKind d.2 ≠ none
  opers : ∀ o ∈ p.opers, (tyO p o).2 = 0
theorem wellP_iff {p : PP'} : (tyP p).2 = 0 ↔ WellP p := by
  unfold tyP
  by_cases h : checkP p = 0
  rotate_left
  · rw [if_pos h]; exact ⟨fun q => absurd q h, fun q => absurd q.check h⟩
  rw [if_neg (fun q => q h)]
  cases h1 : badStore p with
  | some d =>
    have h2 := List.find?_some h1
    have h3 := List.mem_of_find?_eq_some h1
    simp only [decide_eq_true_eq] at h2
    exact ⟨fun q => absurd (show (2 : Int) = 0 from q) (by decide), fun q => absurd h2 (q.kinds d h3)⟩
  | none =>
    have h2 : ∀ d ∈ p.stores, ctKind d.2 ≠ none := fun d hd => by
      have := List.find?_eq_none.1 h1 d hd
      simpa using this
    cases h3 : badOper p with
    | some o =>
      have h4 := List.find?_some h3
      have h5 := List.mem_of_find?_eq_some h3
      simp only [decide_eq_true_eq] at h4
      exact ⟨fun q => absurd q h4, fun q => absurd (q.opers o h5) h4⟩
    | none =>
      refine ⟨fun _ => ⟨h, h2, fun o ho => ?_⟩, fun _ => rfl⟩
      have := List.find?_eq_none.1 h3 o ho
      simpa using this
theorem wellP_sub {p : PP'} (h : WellP p) {l : List PO} (hs : ∀ o ∈ l, o ∈ p.opers) (hn : (l.map (·.name)).Nodup) (hl : l.length ≤ 32) : WellP ⟨p.stores, l⟩ := by
  obtain ⟨h1, h2, h3, h4, h5⟩ := checkP_iff.1 h.check
  exact ⟨checkP_iff.2 ⟨h1, hl, h3, fun o ho => h4 o (hs o ho), hn⟩, h.kinds, fun o ho => h.opers o (hs o ho)⟩
theorem findP_mem {p : PP'} (hn : (p.opers.map (·.name)).Nodup) {o : PO} (ho : o ∈ p.opers) : findP p o.name = some o := by
  unfold findP
  revert hn ho
  generalize p.opers = l
  intro hn ho
  induction l with
  | nil => simp at ho
  | cons x l ih =>
    rw [List.map_cons, List.nodup_cons] at hn
    by_cases hx : x.name = o.name
    · rw [List.find?_cons_of_pos (by simpa using hx)]
      rcases List.mem_cons.1 ho with rfl | ho
      · rfl
      · exact absurd (List.mem_map.2 ⟨o, ho, hx.symm⟩) hn.1
    · rw [List.find?_cons_of_neg (by simpa using hx)]
      rcases List.mem_cons.1 ho with rfl | ho
      · exact absurd rfl hx
      · exact ih hn.2 ho
theorem findP_none {p : PP'} {n : ByteArray} (h : n ∉ p.opers.map (·.name)) : findP p n = none := by
  unfold findP
  rw [List.find?_eq_none]
  intro o ho e
  simp only [decide_eq_true_eq] at e
  exact h (List.mem_map.2 ⟨o, ho, e⟩)
theorem tyV_mem {p : PP'} (h : WellP p) {o : PO} (ho : o ∈ p.opers) : tyV p o.name = tyO p o := by
  unfold tyV
  rw [if_neg (fun q => q (wellP_iff.2 h)), findP_mem (checkP_iff.1 h.check).2.2.2.2 ho]
end Sim

