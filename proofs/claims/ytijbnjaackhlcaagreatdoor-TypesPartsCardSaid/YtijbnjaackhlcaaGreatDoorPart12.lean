import Derived.Test.YtijbnjaackhlcaaGreatDoorPart11
import Derived.Test.YtijbnjaackhlcaaGreatDoorPart4
import Derived.Test.YtijbnjaackhlcaaGreatDoorPart7
import Derived.Test.YtijbnjaackhlcaaGreatDoorPart1
import Derived.Test.YtijbnjaackhlcaaGreatDoorPart5
import Derived.Test.YtijbnjaackhlcaaGreatDoorKit
/- Lemmas and walks for the claims of this seat (own work): Yw8 Hp2 Ty6 Ty7 Yw9 Yw10 Ty8. -/
namespace Go.Proofs.YtijbnjaackhlcaaGreatDoor
open Go.Vc Sim
theorem typesOfR_ownE (w0 : World) (sh : Shared) (st : List (ByteArray × ByteArray)) (vs : TV) (hst : st.length ≤ 8796093022208) (hvs : vs.length ≤ 8796093022208) (ast akn aml av a a' : Option Addr) (cst ckn cml cv c c' : Nat) (e : PE) (T : Int × Int) (hT : typeOf (envR st vs) e = T) (hs : e.size ≤ 400) (hW : RdW w0 sh (.slice ast st.length cst) (.slice akn ctNames.length ckn) (.slice aml ctA.length cml) st) (hV : RdSl w0 sh encT 2 (.slice av vs.length cv) vs) :
    Vc.Fn PP w0 sh 17 [.agg #[.slice ast st.length cst, .slice akn ctNames.length ckn, .slice aml ctA.length cml], .slice av vs.length cv, .agg (List.toArray (peC e.kind e.num e.name e.meth (.slice a e.args.length c) (.slice a' e.or.length c')))]
      [Rds fun bl => RdEl w0 bl (.slice a e.args.length c) e.args ∧ RdEl w0 bl (.slice a' e.or.length c') e.or]
      (fun r Γ => r = resT T ∧ Γ = [Rds fun bl => RdEl w0 bl (.slice a e.args.length c) e.args ∧ RdEl w0 bl (.slice a' e.or.length c') e.or]) := by
  subst hT
  refine (Fn.lendR (φ := fun bl => RdEl w0 bl (.slice a e.args.length c) e.args ∧ RdEl w0 bl (.slice a' e.or.length c') e.or) en17 (fun sh1 bl h1 h2 h3 => typesOfR_spec w0 sh1 st vs hst hvs ast akn aml av cst ckn cml cv e _ _ (by omega) (hW.mono h1) (hV.mono h1) (h3.1.mono h2) (h3.2.mono h2))).mono ?_
  rintro r Γ ⟨_, ⟨rfl, rfl⟩, rfl⟩
  exact ⟨rfl, rfl⟩
theorem typesOf_own (w0 : World) (sh : Shared) (mv mk : Nat) (V : TV) (K : List (ByteArray × ByteArray)) (e : PE) (va vo : Value) (T : Int × Int) (hT : typeOf (envM V K) e = T) (hs : e.size ≤ 400) (ha : RdEl w0 sh va e.args) (ho : RdEl w0 sh vo e.or) :
    Vc.Fn PP w0 sh 16 [.agg (List.toArray (peC e.kind e.num e.name e.meth va vo)), .map (some mv), .map (some mk)] [MapB mv (tvS V), MapB mk (kS K)] (fun r Γ => r = resT T ∧ Γ = [MapB mk (kS K), MapB mv (tvS V)]) := by
  subst hT
  refine (Fn.lendB en16 (fun sh1 s1 r1 => Fn.lendB en16 (fun sh2 s2 r2 => typesOf_spec w0 sh2 mv mk V K e va vo (by omega) ⟨r1.mono s2, r2⟩ ((ha.mono s1).mono s2) ((ho.mono s1).mono s2)))).mono ?_
  rintro r Γ ⟨_, ⟨_, ⟨rfl, rfl⟩, rfl⟩, rfl⟩
  exact ⟨rfl, rfl⟩
set_option maxHeartbeats 8000000 in
theorem typesOfLaw_spec (w0 : World) (hk : KwOk w0) (e : PE) (va vo vv vk : Value) (vs : TV) (st : List (ByteArray × ByteArray)) (ha : RdEl w0 [] va e.args) (ho : RdEl w0 [] vo e.or) (hz : e.sz) (h1 : RdSl w0 [] encT 2 vv vs) (h2 : RdSl w0 [] encD 2 vk st) (b1 : vs.length ≤ 5864062014634) (b2 : st.length ≤ 4398046510976) :
    FnE PP w0 [] 5 [.agg (List.toArray (peC e.kind e.num e.name e.meth va vo)), .agg #[vv, vk]] [] (.bool true) [] := by
  have haw := awake_spec w0 hk
  have hgr := greatT_spec w0 [] e va vo vv vk vs st ha ho hz h1 h2 (by omega) (by omega)
  have hmp := maps_spec w0 [] vv vk vs st h1 h2 b1 b2
  have hcv := fun (hs : e.size ≤ 400) => convE_spec w0 400 (by omega) [] e va vo hs ha ho
  obtain ⟨T, hT⟩ : ∃ T, typeOf (envR st vs) e = T := ⟨_, rfl⟩
  obtain ⟨t, c⟩ := T
  obtain ⟨a1, c1, rfl, hc1, _⟩ := id h1
  obtain ⟨a2, c2, rfl, hc2, _⟩ := id h2
  obtain ⟨a3, c3, rfl, _⟩ := id ha.len
  obtain ⟨a4, c4, rfl, _⟩ := id ho.len
  refine fn_of_run en5 fn5 rfl rfl rfl ?_
  repeat (first | refine zck ?_ | refine zcl ?_ | refine zcm ?_ | refine zcn ?_)
  first | refine zcp (by kernel_rfl) ?_ | refine zcq PP_mixed (by kernel_rfl) (by kernel_rfl) ?_
  repeat' (refine zap rfl ?_; first | refine zaq (cs := [_, _, _, _, _, _]) rfl (fun te => ?_) | refine zaq (cs := [_, _]) rfl (fun tp => ?_) | refine zan rfl ?_)
  all_goals refine zch ?_
  all_goals repeat (first | refine zck ?_ | refine zcl ?_ | refine zcm ?_ | refine zcn ?_)
  refine run_share [0] rfl ?_
  refine run_share [0] rfl ?_
  repeat (first | refine zck ?_ | refine zcl ?_ | refine zcm ?_ | refine zcn ?_)
  first | refine zcp (by kernel_rfl) ?_ | refine zcq PP_mixed (by kernel_rfl) (by kernel_rfl) ?_
  repeat' (refine zap rfl ?_; first | refine zaa 0 rfl rfl rfl ?_ | refine zaa 1 rfl rfl rfl ?_ | (refine zai [] hgr rfl rfl rfl sub_nil ?_; rintro v Γ ⟨rfl, B, rfl, hB⟩))
  all_goals refine zch ?_
  all_goals repeat (first | refine zck ?_ | refine zcl ?_ | refine zcm ?_ | refine zcn ?_)
  cases B with
  | true =>
    refine zci rfl ?_
    repeat' (first | refine zck ?_ | refine zcp (by kernel_rfl) ?_ | (refine zap rfl ?_; first | refine zan rfl ?_ | refine zah [] haw rfl rfl rfl sub_nil rfl ?_) | refine zch ?_)
    refine run_take [] rfl ?_
    exact ret_tmp1 rfl ⟨rfl, rfl⟩
  | false =>
    have hs := hB rfl
    have hcv := hcv hs
    refine zcj rfl ?_
    repeat (first | refine zck ?_ | refine zcl ?_ | refine zcm ?_ | refine zcn ?_)
    first | refine zcp (by kernel_rfl) ?_ | refine zcq PP_mixed (by kernel_rfl) (by kernel_rfl) ?_
    repeat' (refine zap rfl ?_; first | refine zar (fun t8 => ?_) | refine zan rfl ?_ | refine zan rfl ?_ | refine zaa 0 rfl rfl rfl ?_ | (refine zai [] hmp rfl rfl rfl sub_nil ?_; rintro v Γ ⟨mv, mk, av, cv, aS, cS, an, cn, am, cm, rfl, rfl⟩) | refine zan rfl ?_ | refine zae 4 rfl rfl rfl rfl rfl rfl rfl ?_)
    all_goals refine zch ?_
    all_goals repeat (first | refine zck ?_ | refine zcl ?_ | refine zcm ?_ | refine zcn ?_)
    have hty := typesOf_own w0 [] mv mk (mkV vs) (mkK st) e _ _ (t, c) (by rw [env_mk]; exact hT) hs ha ho
    repeat (first | refine zck ?_ | refine zcl ?_ | refine zcm ?_ | refine zcn ?_)
    first | refine zcp (by kernel_rfl) ?_ | refine zcq PP_mixed (by kernel_rfl) (by kernel_rfl) ?_
    repeat' (refine zap rfl ?_; first | refine zan rfl ?_ | refine zan rfl ?_ | refine zaa 1 rfl rfl rfl ?_ | (refine zai [0, 0] hty rfl rfl rfl sub_nil ?_; rintro v Γ ⟨rfl, rfl⟩) | refine zan rfl ?_)
    all_goals refine zch ?_
    all_goals repeat (first | refine zck ?_ | refine zcl ?_ | refine zcm ?_ | refine zcn ?_)
    refine run_take [2, 2, 2] rfl ?_
    refine run_shareB [0] rfl (fun bl1 hV => ?_)
    refine run_shareB [0] rfl (fun bl2 hW => ?_)
    refine run_share [0] rfl ?_
    repeat (first | refine zck ?_ | refine zcl ?_ | refine zcm ?_ | refine zcn ?_ | refine zco ?_)
    have hro := fun sh' q1 q2 (a5 a6 : Option Addr) (c5 c6 : Nat) => typesOfR_ownE w0 sh' st vs (by omega) (by omega) aS an am av a5 a6 cS cn cm cv c5 c6 e (t, c) hT hs (hW.mono q1) (hV.mono q2)
    repeat (first | refine zck ?_ | refine zcl ?_ | refine zcm ?_ | refine zcn ?_)
    first | refine zcp (by kernel_rfl) ?_ | refine zcq PP_mixed (by kernel_rfl) (by kernel_rfl) ?_
    repeat' (refine zap rfl ?_; first | refine zan rfl ?_ | refine zan rfl ?_ | refine zaa 0 rfl rfl rfl ?_ | refine zaa 2 rfl rfl rfl ?_ | (refine zai [] hcv rfl rfl rfl sub_nil ?_; rintro v Γ ⟨a5, c5, a6, c6, rfl, rfl⟩) | (refine zai [0] (hro _ (fun p hp => by simp [hp]) (fun p hp => by simp [hp]) a5 a6 c5 c6) rfl rfl rfl (fun _ h => h) ?_; rintro v Γ ⟨rfl, rfl⟩) | refine zan rfl ?_)
    all_goals refine zch ?_
    all_goals repeat (first | refine zck ?_ | refine zcl ?_ | refine zcm ?_ | refine zcn ?_)
    refine run_take [] rfl ?_
    repeat (first | refine zck ?_ | refine zcl ?_ | refine zcm ?_ | refine zcn ?_ | refine zco ?_)
    repeat' (first | refine zcp (by kernel_rfl) ?_ | (refine zap rfl ?_; first | refine zaj rfl ?_ | refine zan rfl ?_ | refine zan rfl ?_ | refine zah [] haw rfl rfl rfl sub_nil rfl ?_ | refine zbc rfl rfl (by omega) ?_ | refine zbu rfl ?_) | refine zch ?_)
    exact ret_tmp1 rfl ⟨rfl, rfl⟩
end Go.Proofs.YtijbnjaackhlcaaGreatDoor

namespace Go.Proofs.YtijbnjaackhlcaaGreatDoor
open Go.Vc Sim Go.ChangeShapes Go.WideShapes Go.RowKit
set_option maxRecDepth 100000
section
variable {H : Type} {enc : TypeId × Value → H} {w : World} {base : Nat} {spare : Nat → Bool} {held : Bool}
theorem in_var (n : Nat) (cs : List Value) (y : DataW H × List MemPlace) (h : DataW.trod enc Tryz.prog w base spare held n 69 cs = some y) : ∃ x : ByteArray × Int, True ∧ cs = encT x := by
  obtain ⟨xs, n', hn', hy, hlen, hxl, hf⟩ := DataW.trod_struct Tryz.underlying69 h
  have c0 : Tryz.prog.cellsOf 9 = 1 := by kernel_rfl
  have c1 : Tryz.prog.cellsOf 3 = 1 := by kernel_rfl
  have cT : Tryz.prog.cellsOf 69 = 2 := by kernel_rfl
  rw [cT] at hlen
  have f0 : DataW.trod enc Tryz.prog w base spare held n' 9 ((cs.drop 0).take (Tryz.prog.cellsOf 9)) = xs[0]? := hf 0 _ rfl
  have f1 : DataW.trod enc Tryz.prog w base spare held n' 3 ((cs.drop 1).take (Tryz.prog.cellsOf 3)) = xs[1]? := hf 1 _ rfl
  rw [c0] at f0
  rw [c1] at f1
  match cs, hlen with
  | [a0, a1], _ =>
    match xs, hxl with
    | [y0, y1], _ =>
      obtain ⟨s0, e0, _, _⟩ := DataW.trod_string Tryz.underlying9 (show DataW.trod _ _ _ _ _ _ n' _ [a0] = some y0 from f0)
      obtain ⟨k1, e1, _⟩ := DataW.trod_int Tryz.underlying3 (show DataW.trod _ _ _ _ _ _ n' _ [a1] = some y1 from f1)
      simp only [List.cons.injEq, and_true] at e0 e1
      subst e0; subst e1
      exact ⟨(s0, k1), trivial, rfl⟩
theorem in_s2 (n : Nat) (cs : List Value) (y : DataW H × List MemPlace) (h : DataW.trod enc Tryz.prog w base spare held n 72 cs = some y) : ∃ x : ByteArray × ByteArray, True ∧ cs = encD x := by
  obtain ⟨xs, n', _, hy, hlen, hxl, hf⟩ := DataW.trod_array Tryz.underlying72 h
  have c0 : Tryz.prog.cellsOf 9 = 1 := by kernel_rfl
  have cT : Tryz.prog.cellsOf 72 = 2 := by kernel_rfl
  rw [cT] at hlen
  have f0 : DataW.trod enc Tryz.prog w base spare held n' 9 ((cs.drop (0 * Tryz.prog.cellsOf 9)).take (Tryz.prog.cellsOf 9)) = xs[0]? := hf 0 (by decide)
  have f1 : DataW.trod enc Tryz.prog w base spare held n' 9 ((cs.drop (1 * Tryz.prog.cellsOf 9)).take (Tryz.prog.cellsOf 9)) = xs[1]? := hf 1 (by decide)
  rw [c0] at f0 f1
  match cs, hlen with
  | [a0, a1], _ =>
    match xs, hxl with
    | [y0, y1], _ =>
      obtain ⟨s0, e0, _, _⟩ := DataW.trod_string Tryz.underlying9 (show DataW.trod _ _ _ _ _ _ n' _ [a0] = some y0 from f0)
      obtain ⟨s1, e1, _, _⟩ := DataW.trod_string Tryz.underlying9 (show DataW.trod _ _ _ _ _ _ n' _ [a1] = some y1 from f1)
      simp only [List.cons.injEq, and_true] at e0 e1
      subst e0; subst e1
      exact ⟨(s0, s1), trivial, rfl⟩
theorem in_place (n : Nat) (cs : List Value) (y : DataW H × List MemPlace) (h : DataW.trod enc Tryz.prog w base spare held n 48 cs = some y) (hw : ∀ q ∈ y.1.weights Tryz.prog 48, q ≤ reachBytes) :
    ∃ (a b : Value) (vs : TV) (st : List (ByteArray × ByteArray)), cs = [a, b] ∧ RdSl w [] encT 2 a vs ∧ RdSl w [] encD 2 b st ∧ vs.length ≤ 5864062014634 ∧ st.length ≤ 4398046510976 := by
  obtain ⟨xs, n', hn', hy, hlen, hxl, hf⟩ := DataW.trod_struct Tryz.underlying48 h
  have c0 : Tryz.prog.cellsOf 45 = 1 := by kernel_rfl
  have c1 : Tryz.prog.cellsOf 46 = 1 := by kernel_rfl
  have cT : Tryz.prog.cellsOf 48 = 2 := by kernel_rfl
  rw [cT] at hlen
  have f0 : DataW.trod enc Tryz.prog w base spare held n' 45 ((cs.drop 0).take (Tryz.prog.cellsOf 45)) = xs[0]? := hf 0 _ rfl
  have f1 : DataW.trod enc Tryz.prog w base spare held n' 46 ((cs.drop 1).take (Tryz.prog.cellsOf 46)) = xs[1]? := hf 1 _ rfl
  rw [c0] at f0
  rw [c1] at f1
  match cs, hlen with
  | [a0, a1], _ =>
    match xs, hxl with
    | [y0, y1], _ =>
      have hwt : y.1.weights Tryz.prog 48 = y0.1.weights Tryz.prog 45 ++ (y1.1.weights Tryz.prog 46 ++ []) := by
        rw [hy]
        simp only [DataW.weights, Tryz.underlying48]
        rfl
      rw [hwt] at hw
      obtain ⟨v0, l0, e0, r0, _, w0⟩ := in_sliceF (m := 2) encT (fun _ => True) Tryz.underlying45 (by kernel_rfl) (by decide) (show DataW.trod _ _ _ _ _ _ n' _ [a0] = some y0 from f0) (fun q hq => hw q (by simp [hq])) (fun m hm cs y hy hq => in_var m cs y hy)
      obtain ⟨v1, l1, e1, r1, _, w1⟩ := in_sliceF (m := 2) encD (fun _ => True) Tryz.underlying46 (by kernel_rfl) (by decide) (show DataW.trod _ _ _ _ _ _ n' _ [a1] = some y1 from f1) (fun q hq => hw q (by simp [hq])) (fun m hm cs y hy hq => in_s2 m cs y hy)
      simp only [List.cons.injEq, and_true] at e0 e1
      subst e0; subst e1
      have hR : reachBytes = 140737488351232 := rfl
      have b0 : Tryz.prog.bytesOf 69 = 24 := by kernel_rfl
      have b1 : Tryz.prog.bytesOf 72 = 32 := by kernel_rfl
      rw [b0] at w0
      rw [b1] at w1
      exact ⟨_, _, l0, l1, rfl, r0.rd, r1.rd, by omega, by omega⟩
end
theorem in_expr {H : Type} {enc : TypeId × Value → H} {w : World} {base : Nat} {spare : Nat → Bool} {held : Bool} {r : Reach} {b0 : Nat} {v : Value} {d : DataW H} {ps : List MemPlace}
    (hval : Value.okWide Tryz.prog w r b0 41 v) (h : DataW.Trod enc Tryz.prog w base spare held 41 v d ps) (hw : ∀ q ∈ d.weights Tryz.prog 41, q ≤ reachBytes) :
    ∃ (e : PE) (va vo : Value), v = .agg (List.toArray (peC e.kind e.num e.name e.meth va vo)) ∧ RdEl w [] va e.args ∧ RdEl w [] vo e.or ∧ e.sz := by
  obtain ⟨fuel, hf⟩ := h
  simp only [Value.okWide, Tryz.underlying41] at hval
  obtain ⟨cs, rfl, _⟩ := hval
  have hf : DataW.trod enc Tryz.prog w base spare held fuel 41 cs.toList = some (d, ps) := hf
  obtain ⟨_, e, h1, h2⟩ := in_pe fuel _ _ hf hw
  obtain ⟨va, vo, h3, r1, r2⟩ := h1.cs
  exact ⟨e, va, vo, by rw [← h3, Array.toArray_toList], r1, r2, h2⟩
theorem in_placeV {H : Type} {enc : TypeId × Value → H} {w : World} {base : Nat} {spare : Nat → Bool} {held : Bool} {r : Reach} {b0 : Nat} {v : Value} {d : DataW H} {ps : List MemPlace}
    (hval : Value.okWide Tryz.prog w r b0 48 v) (h : DataW.Trod enc Tryz.prog w base spare held 48 v d ps) (hw : ∀ q ∈ d.weights Tryz.prog 48, q ≤ reachBytes) :
    ∃ (a b : Value) (vs : TV) (st : List (ByteArray × ByteArray)), v = .agg #[a, b] ∧ RdSl w [] encT 2 a vs ∧ RdSl w [] encD 2 b st ∧ vs.length ≤ 5864062014634 ∧ st.length ≤ 4398046510976 := by
  obtain ⟨fuel, hf⟩ := h
  simp only [Value.okWide, Tryz.underlying48] at hval
  obtain ⟨cs, rfl, _⟩ := hval
  have hf : DataW.trod enc Tryz.prog w base spare held fuel 48 cs.toList = some (d, ps) := hf
  obtain ⟨a, b, vs, st, e, h1, h2, h3, h4⟩ := in_place fuel _ _ hf hw
  have e2 : cs = #[a, b] := by rw [← Array.toList_inj, e]
  rw [e2]
  exact ⟨a, b, vs, st, rfl, h1, h2, h3, h4⟩
end Go.Proofs.YtijbnjaackhlcaaGreatDoor

namespace Sim
open Go Go.Vc
def addV (m l : TV) : TV := l.foldl (fun m v => if (lookV m v.1).isSome then m else insV m v.1 v.2) m
def addK (m l : List (ByteArray × ByteArray)) : List (ByteArray × ByteArray) := l.foldl (fun m v => if (lookK m v.1).isSome then m else insK m v.1 v.2) m
theorem addV_next {m l : TV} {j : Nat} {x : ByteArray × Int} (h : l[j]? = some x) : addV m (l.take (j + 1)) = if (lookV (addV m (l.take j)) x.1).isSome then addV m (l.take j) else insV (addV m (l.take j)) x.1 x.2 := by
  unfold addV
  rw [take_snoc h, List.foldl_append]
  rfl
theorem addK_next {m l : List (ByteArray × ByteArray)} {j : Nat} {x : ByteArray × ByteArray} (h : l[j]? = some x) : addK m (l.take (j + 1)) = if (lookK (addK m (l.take j)) x.1).isSome then addK m (l.take j) else insK (addK m (l.take j)) x.1 x.2 := by
  unfold addK
  rw [take_snoc h, List.foldl_append]
  rfl
theorem addV_look {s : ByteArray} {t : Int} : ∀ (l m : TV), lookV m s = some t → lookV (addV m l) s = some t
  | [], _, h => h
  | v :: l, m, h => by
    show lookV (addV (if (lookV m v.1).isSome then m else insV m v.1 v.2) l) s = some t
    refine addV_look l _ ?_
    by_cases hv : (lookV m v.1).isSome
    · rw [if_pos hv]; exact h
    · rw [if_neg hv, lookV_insV, if_neg (fun e => hv (by rw [e, h]; rfl))]; exact h
theorem addK_look {s : ByteArray} {t : ByteArray} : ∀ (l m : List (ByteArray × ByteArray)), lookK m s = some t → lookK (addK m l) s = some t
  | [], _, h => h
  | v :: l, m, h => by
    show lookK (addK (if (lookK m v.1).isSome then m else insK m v.1 v.2) l) s = some t
    refine addK_look l _ ?_
    by_cases hv : (lookK m v.1).isSome
    · rw [if_pos hv]; exact h
    · rw [if_neg hv, lookK_insK, if_neg (fun e => hv (by rw [e, h]; rfl))]; exact h
theorem env_le (m l : TV) (k q : List (ByteArray × ByteArray)) : (envM m k).le (envM (addV m l) (addK k q)) := by
  refine ⟨fun s hs => ?_, fun s t hs => addK_look q k hs⟩
  have hs : (lookV m s).getD 0 = 1 ∨ (lookV m s).getD 0 = 2 := hs
  show (lookV (addV m l) s).getD 0 = (lookV m s).getD 0
  cases h : lookV m s with
  | none => rw [h] at hs; rcases hs with hs | hs <;> cases hs
  | some t => rw [addV_look l m h]
end Sim

namespace Sim
open Go Go.Vc
def exB1 : PE := .mk 1 1 (bs []) (bs []) [] []
def exN0 : PE := .mk 0 0 (bs []) (bs []) [] []
def wrapS (h num : Int) (was : List PS) : PS := if h = 1 then .mk 3 (bs []) 0 exB1 [] was else if h = 2 then .mk 4 (bs []) num exN0 was [] else .mk 3 (bs []) 0 exB1 was []
def setS (x : PS) : PS := .mk 1 x.name 0 x.expr [] []
theorem exB1_ty (E : TEnv) : typeOf E exB1 = (2, 0) := by
  unfold typeOf
  rw [if_neg (by decide)]
  unfold exB1
  rw [ofE_mk, if_neg (by decide), if_neg (by rw [show formT (.mk 1 1 (bs []) (bs []) [] []) = true from rfl]; decide)]
  have h0 : ofEs E [] = ([], 0) := by rw [ofEs]
  rw [h0]
  rfl
theorem oneT_if (K : ByteArray → Option ByteArray) (all there : TV) (xs ys : List PS) : oneT K all there (.mk 3 (bs []) 0 exB1 xs ys) = (all, there, 0) := by
  have h : exT K there (.mk 3 (bs []) 0 exB1 xs ys) = (2, 0) := by
    unfold exT
    rw [if_pos (show hasEx (PS.mk 3 (bs []) 0 exB1 xs ys).kind = true from rfl)]
    exact exB1_ty _
  unfold oneT
  rw [h]
  rfl
theorem oneT_rep (K : ByteArray → Option ByteArray) (all there : TV) (num : Int) (xs ys : List PS) : oneT K all there (.mk 4 (bs []) num exN0 xs ys) = (all, there, 0) := by
  have h : exT K there (.mk 4 (bs []) num exN0 xs ys) = (0, 0) := by
    unfold exT
    rw [if_neg (fun q : hasEx (PS.mk 4 (bs []) num exN0 xs ys).kind = true => absurd (show hasEx 4 = true from q) (by decide))]
  unfold oneT
  rw [h]
  rfl
theorem oneT_wrap (K : ByteArray → Option ByteArray) (all there : TV) (h num : Int) (was : List PS) : oneT K all there (wrapS h num was) = (all, there, 0) := by
  unfold wrapS
  split
  · exact oneT_if ..
  split
  · exact oneT_rep ..
  · exact oneT_if ..
theorem wrap_there (K : ByteArray → Option ByteArray) (all there : TV) (h num : Int) (was : List PS) : (tyS K (wrapS h num was) all there).2.1 = there := by
  rw [tyS_eq K _ all there all there 0 (oneT_wrap ..), if_neg (by decide)]
  split <;> rfl
theorem wrap_ok {K : ByteArray → Option ByteArray} {all : TV} {h num : Int} {was : List PS} (hw : (tySs K was all all).2 = 0) : (tySs K [wrapS h num was] all all).2 = 0 := by
  have e0 : ∀ A B : TV, tySs K [] A B = (A, 0) := fun A B => by rw [tySs]
  have e1 : (tyS K (wrapS h num was) all all).2.2 = 0 := by
    rw [tyS_eq K _ all all all all 0 (oneT_wrap ..), if_neg (by decide)]
    unfold wrapS
    have h1 : (if (tySs K [] all all).2 ≠ 0 then ((tySs K [] all all).1, all, (tySs K [] all all).2) else ((tySs K was (tySs K [] all all).1 all).1, all, (tySs K was (tySs K [] all all).1 all).2)).2.2 = 0 := by
      rw [e0, if_neg (fun q => q rfl)]
      exact hw
    have h2 : (if (tySs K was all all).2 ≠ 0 then ((tySs K was all all).1, all, (tySs K was all all).2) else ((tySs K [] (tySs K was all all).1 all).1, all, (tySs K [] (tySs K was all all).1 all).2)).2.2 = 0 := by
      rw [if_neg (fun q => q hw), e0]
    split
    · exact h1
    split
    · exact h2
    · exact h2
  rw [tySs, if_neg (fun q => q e1), e0]
theorem wrap_bad {K : ByteArray → Option ByteArray} {all : TV} {h num : Int} {was : List PS} {x : PS} (hx : typT all x.name = 0) : (tySs K [wrapS h num was, setS x] all all).2 ≠ 0 := by
  rw [tySs]
  split
  · rename_i hq; exact hq
  rw [wrap_there, tySs]
  have h1 : (tyS K (setS x) (tyS K (wrapS h num was) all all).1 all).2.2 ≠ 0 := by
    generalize (tyS K (wrapS h num was) all all).1 = A
    have ho : (oneT K A all (setS x)).2.2 ≠ 0 := by
      unfold oneT
      split
      · rename_i hq; exact hq
      rw [if_neg (fun q : (setS x).kind = 0 => absurd (show (1 : Int) = 0 from q) (by decide)), if_pos ⟨rfl, hx⟩]
      show (16 : Int) ≠ 0; decide
    unfold setS at ho ⊢
    rw [tyS_mk, if_pos ho]
    exact ho
  rw [if_pos h1]
  exact h1
def withB (p : PP') (o : PO) (rest : List PO) (b : List PS) : PP' := ⟨p.stores, ⟨o.name, o.params, b⟩ :: rest⟩
theorem wrap_well {p : PP'} {o : PO} {rest : List PO} {h num : Int} (hw : WellP p) (hp : p.opers = o :: rest) (hc : checkP (withB p o rest [wrapS h num o.body]) = 0) : (tyP (withB p o rest [wrapS h num o.body])).2 = 0 := by
  refine wellP_iff.2 ⟨hc, hw.kinds, fun q hq => ?_⟩
  rcases List.mem_cons.1 hq with rfl | hq
  · exact wrap_ok (hw.opers o (by rw [hp]; exact .head _))
  · exact hw.opers q (by rw [hp]; exact .tail _ hq)
theorem wrap_ill {p : PP'} {o : PO} {rest : List PO} {h num : Int} {x : PS} (hw : WellP p) (hp : p.opers = o :: rest) (hx : x ∈ o.body) (hk : x.kind = 0) : (tyP (withB p o rest [wrapS h num o.body, setS x])).2 ≠ 0 := by
  intro hq
  have h1 := (wellP_iff.1 hq).opers ⟨o.name, o.params, [wrapS h num o.body, setS x]⟩ (.head _)
  have ho : o ∈ p.opers := by rw [hp]; exact .head _
  have hg := (checkP_iff.1 hw.check).2.2.2.1 o ho
  have hst := parV_st hg
  have hn := tySs_let hst (hw.opers o ho) x hx hk
  exact wrap_bad ((typT_zero hst.okA x.name).2 hn) h1
end Sim

namespace Go.Proofs.YtijbnjaackhlcaaGreatDoor
open Go.Vc Sim
theorem exN0_sz : exN0.sz := by
  unfold exN0 PE.sz szB
  exact ⟨by decide, by decide, by unfold PE.szL; trivial, by unfold PE.szL; trivial⟩
set_option maxHeartbeats 16000000 in
theorem typesMoreLaw_spec (w0 : World) (hk : KwOk w0) (e : PE) (va vo vv vk uv uk : Value) (vs ws : TV) (st ut : List (ByteArray × ByteArray)) (ha : RdEl w0 [] va e.args) (ho : RdEl w0 [] vo e.or) (hz : e.sz) (h1 : RdSl w0 [] encT 2 vv vs) (h2 : RdSl w0 [] encD 2 vk st) (b1 : vs.length ≤ 5864062014634) (b2 : st.length ≤ 4398046510976)
    (g1 : RdSl w0 [] encT 2 uv ws) (g2 : RdSl w0 [] encD 2 uk ut) (d1 : ws.length ≤ 5864062014634) (d2 : ut.length ≤ 4398046510976) :
    FnE PP w0 [] 8 [.agg (List.toArray (peC e.kind e.num e.name e.meth va vo)), .agg #[vv, vk], .agg #[uv, uk]] [] (.bool true) [] := by
  have haw := awake_spec w0 hk
  have hgr := greatT_spec w0 [] e va vo vv vk vs st ha ho hz h1 h2 (by omega) (by omega)
  have hgr2 := greatT_spec w0 [] exN0 nilS nilS uv uk ws ut RdEl.nil0 RdEl.nil0 exN0_sz g1 g2 (by omega) (by omega)
  have hmp := maps_spec w0 [] vv vk vs st h1 h2 b1 b2
  obtain ⟨V, hV⟩ : ∃ V, V = mkV vs := ⟨_, rfl⟩
  obtain ⟨K, hK⟩ : ∃ K, K = mkK st := ⟨_, rfl⟩
  rw [← hV, ← hK] at hmp
  obtain ⟨T, hT⟩ : ∃ T, typeOf (envM V K) e = T := ⟨_, rfl⟩
  have hok := typeOf_ok (envM V K) e
  rw [hT] at hok
  obtain ⟨t, c⟩ := T
  unfold tyOk at hok
  dsimp only at hok
  have hsz := e.size_eq
  have hla := PE.sizeL_len e.args
  have hlo := PE.sizeL_len e.or
  obtain ⟨cla, hca, hea⟩ := id ha
  obtain ⟨clo, hco, heo⟩ := id ho
  have na := hea.len
  have no := heo.len
  obtain ⟨ona, s6a⟩ := hea.flat
  obtain ⟨ono, s6o⟩ := heo.flat
  obtain ⟨a1, c1, rfl, hc1, _⟩ := id h1
  obtain ⟨a2, c2, rfl, hc2, _⟩ := id h2
  obtain ⟨i1, j1, rfl, hj1, _⟩ := id g1
  obtain ⟨i2, j2, rfl, hj2, _⟩ := id g2
  obtain ⟨a3, c3, rfl, _⟩ := id ha.len
  obtain ⟨a4, c4, rfl, _⟩ := id ho.len
  have hcal : RdC w0 [] 6 (.slice a3 e.args.length c3) cla := hca
  have hcol : RdC w0 [] 6 (.slice a4 e.or.length c4) clo := hco
  have hln : (e.args ++ e.or).length = cla.length + clo.length := by rw [List.length_append, na, no]
  have s6 : ∀ c ∈ cla ++ clo, c.length = 6 := fun c hc => by
    rcases List.mem_append.1 hc with hc | hc
    · exact s6a c hc
    · exact s6o c hc
  have hes : ∀ (sh' : Shared), RdEs w0 sh' (e.args ++ e.or) (cla ++ clo) := fun sh' => (hea.mono fun p hp => by cases hp).app (heo.mono fun p hp => by cases hp)
  have hpart : c = 0 → ∀ x ∈ e.args ++ e.or, (typeOf (envM V K) x).2 = 0 := fun h x hx => typeOf_parts (by rw [hT]; exact h) hx
  have hsx : ∀ x ∈ e.args ++ e.or, x.size ≤ e.size := fun x hx => by
    rcases List.mem_append.1 hx with hx | hx
    · have := PE.size_args hx; omega
    · have := PE.size_or hx; omega
  obtain ⟨l, hl⟩ : ∃ l, l = e.args ++ e.or := ⟨_, rfl⟩
  rw [← hl] at hln hes hpart hsx
  have hN : ∃ N, N = e := ⟨_, rfl⟩
  refine fn_of_run en8 fn8 rfl rfl rfl ?_
  repeat (first | refine zck ?_ | refine zcl ?_ | refine zcm ?_ | refine zcn ?_)
  first | refine zcp (by kernel_rfl) ?_ | refine zcq PP_mixed (by kernel_rfl) (by kernel_rfl) ?_
  repeat' (refine zap rfl ?_; first | refine zaq (cs := [_, _, _, _, _, _]) rfl (fun te => ?_) | refine zaq (cs := [_, _]) rfl (fun tp => ?_) | refine zan rfl ?_)
  all_goals refine zch ?_
  all_goals repeat (first | refine zck ?_ | refine zcl ?_ | refine zcm ?_ | refine zcn ?_)
  refine run_share [0] rfl ?_
  refine run_share [0] rfl ?_
  refine run_share [0] rfl ?_
  repeat (first | refine zck ?_ | refine zcl ?_ | refine zcm ?_ | refine zcn ?_)
  first | refine zcp (by kernel_rfl) ?_ | refine zcq PP_mixed (by kernel_rfl) (by kernel_rfl) ?_
  repeat' (refine zap rfl ?_; first | refine zaj rfl ?_ | refine zak rfl ?_ | refine zan rfl ?_ | refine zaa 0 rfl rfl rfl ?_ | refine zaa 1 rfl rfl rfl ?_ | refine zaa 2 rfl rfl rfl ?_ | (refine zai [] hgr rfl rfl rfl sub_nil ?_; rintro v Γ ⟨rfl, B, rfl, hB⟩; cases B) | (refine zai [] hgr2 rfl rfl rfl sub_nil ?_; rintro v Γ ⟨rfl, B2, rfl, hB2⟩; cases B2) | refine zbu rfl ?_ | refine zbv rfl ?_ | refine zcb rfl ?_)
  all_goals refine zch ?_
  all_goals repeat (first | refine zck ?_ | refine zcl ?_ | refine zcm ?_ | refine zcn ?_)
  rotate_left
  all_goals try
    refine zci rfl ?_
    repeat' (first | refine zck ?_ | refine zcp (by kernel_rfl) ?_ | (refine zap rfl ?_; first | refine zan rfl ?_ | refine zah [] haw rfl rfl rfl sub_nil rfl ?_) | refine zch ?_)
    refine run_take [] rfl ?_
    exact ret_tmp1 rfl ⟨rfl, rfl⟩
  have hs := hB rfl
  refine zcj rfl ?_
  repeat (first | refine zck ?_ | refine zcl ?_ | refine zcm ?_ | refine zcn ?_)
  first | refine zcp (by kernel_rfl) ?_ | refine zcq PP_mixed (by kernel_rfl) (by kernel_rfl) ?_
  repeat' (refine zap rfl ?_; first | refine zar (fun t10 => ?_) | refine zan rfl ?_ | refine zan rfl ?_ | refine zaa 1 rfl rfl rfl ?_ | (refine zai [] hmp rfl rfl rfl sub_nil ?_; rintro v Γ ⟨mv, mk, av, cv, aS, cS, an, cn, am, cm, rfl, rfl⟩) | refine zan rfl ?_ | refine zae 4 rfl rfl rfl rfl rfl rfl rfl ?_)
  all_goals refine zch ?_
  all_goals repeat (first | refine zck ?_ | refine zcl ?_ | refine zcm ?_ | refine zcn ?_)
  have hty := typesOf_own w0 [] mv mk V K e _ _ (t, c) hT hs ha ho
  repeat (first | refine zck ?_ | refine zcl ?_ | refine zcm ?_ | refine zcn ?_)
  first | refine zcp (by kernel_rfl) ?_ | refine zcq PP_mixed (by kernel_rfl) (by kernel_rfl) ?_
  repeat' (refine zap rfl ?_; first | refine zan rfl ?_ | refine zan rfl ?_ | refine zaa 2 rfl rfl rfl ?_ | (refine zai [0, 0] hty rfl rfl rfl sub_nil ?_; rintro v Γ ⟨rfl, rfl⟩) | refine zan rfl ?_)
  all_goals refine zch ?_
  all_goals repeat (first | refine zck ?_ | refine zcl ?_ | refine zcm ?_ | refine zcn ?_)
  refine run_take [1, 0] rfl ?_
  repeat (first | refine zck ?_ | refine zcl ?_ | refine zcm ?_ | refine zcn ?_ | refine zco ?_)
  by_cases hc : c = 0
  rotate_left
  · have ht : t = 0 := by omega
    subst ht
    repeat (first | refine zck ?_ | refine zcl ?_ | refine zcm ?_ | refine zcn ?_)
    first | refine zcp (by kernel_rfl) ?_ | refine zcq PP_mixed (by kernel_rfl) (by kernel_rfl) ?_
    repeat' (refine zap rfl ?_; first | refine zan rfl ?_ | refine zbe rfl rfl (by omega) ?_)
    all_goals refine zch ?_
    all_goals repeat (first | refine zck ?_ | refine zcl ?_ | refine zcm ?_ | refine zcn ?_)
    refine zci rfl ?_
    repeat' (first | refine zck ?_ | refine zcp (by kernel_rfl) ?_ | (refine zap rfl ?_; first | refine zaj rfl ?_ | refine zan rfl ?_ | refine zan rfl ?_ | refine zah [] haw rfl rfl rfl sub_nil rfl ?_ | refine zbc rfl rfl (by omega) ?_ | refine zbu rfl ?_) | refine zch ?_)
    refine run_take [] rfl ?_
    exact ret_tmp1 rfl ⟨rfl, rfl⟩
  subst hc
  have hpart := hpart rfl
  have ht : t = 1 ∨ t = 2 := by omega
  repeat (first | refine zck ?_ | refine zcl ?_ | refine zcm ?_ | refine zcn ?_)
  first | refine zcp (by kernel_rfl) ?_ | refine zcq PP_mixed (by kernel_rfl) (by kernel_rfl) ?_
  repeat' (refine zap rfl ?_; first | refine zan rfl ?_ | refine zbf rfl rfl (by omega) ?_)
  all_goals refine zch ?_
  all_goals repeat (first | refine zck ?_ | refine zcl ?_ | refine zcm ?_ | refine zcn ?_)
  refine zcj rfl ?_
  repeat (first | refine zck ?_ | refine zcl ?_ | refine zcm ?_ | refine zcn ?_)
  first | refine zcp (by kernel_rfl) ?_ | refine zcq PP_mixed (by kernel_rfl) (by kernel_rfl) ?_
  repeat' (refine zap rfl ?_; first | refine reg_buildSlice rfl rfl rfl rfl rfl rfl (fun nb9 => ?_) | refine zan rfl ?_ | refine zaa 2 rfl rfl rfl ?_ | refine zce rfl ?_ | (refine reg_own 2 rfl rfl (len := 0) (cap := 0) (sz := 6) ⟨rfl, Nat.le_refl _, Nat.le_refl _⟩ rfl ?_; refine reg_append_rdE 2 rfl rfl (hcal.mono fun p hp => by cases hp) (by decide) ona rfl rfl (by omega) (fun _ _ => rfl) (fun a5 c5 => ?_)) | refine reg_append_rdE 2 rfl rfl (hcol.mono fun p hp => by cases hp) (by decide) ono rfl rfl (by omega) (fun _ _ => rfl) (fun a6 c6 => ?_) | refine zce rfl ?_ | refine zao rfl ?_)
  all_goals refine zch ?_
  all_goals repeat (first | refine zck ?_ | refine zcl ?_ | refine zcm ?_ | refine zcn ?_)
  refine run_slR (fun x : List Value => x) 2 (l := cla ++ clo) rfl (by rw [List.flatMap_append]; rfl) s6 (by rw [List.length_append, Nat.zero_add]) rfl ?_
  refine run_shareB [2] rfl (fun bl hbl => ?_)
  have hl2 : RdEl w0 bl (.slice a6 (0 + cla.length + clo.length) c6) l := ⟨cla ++ clo, hbl, hes bl⟩
  repeat (first | refine zck ?_ | refine zcl ?_ | refine zcm ?_ | refine zcn ?_ | refine zco ?_)
  refine run_loop (S := Nat) (fun s => [(3, .pointer (some ⟨te, 0, none⟩)), (5, .pointer (some ⟨tp, 0, none⟩)), (7, .map (some mv)), (8, .map (some mk)), (11, .int .i64 t), (63, .slice a6 (0 + cla.length + clo.length) c6), (64, .int .i64 ((0 + cla.length + clo.length : Nat) : Int)), (65, .int .i64 (s : Int))])
    (fun s Γ => Γ = [MapB mv (tvS V), MapB mk (kS K)] ∧ s ≤ l.length) (fun s => l.length - s) 0 ⟨rfl, rfl, rfl, rfl, rfl, rfl, rfl, rfl, trivial⟩ ⟨rfl, Nat.zero_le _⟩ ?_
  rintro j Γ junk ⟨rfl, q1⟩
  try dsimp only at q1 ⊢
  by_cases hj : j < l.length
  · obtain ⟨x, hx⟩ : ∃ x, l[j]? = some x := ⟨_, List.getElem?_eq_getElem hj⟩
    obtain ⟨b, off, cc, Tc, fr, cs, rfl, e2, e3, e4, _⟩ := hl2.at hx
    obtain ⟨va, vo, rfl, r1, r2⟩ := e4.cs
    have hxm := List.mem_iff_getElem?.2 ⟨_, hx⟩
    have hp0 := hpart x hxm
    have hxo := typeOf_ok (envM V K) x
    have hxs := hsx x hxm
    obtain ⟨Tx, hTx⟩ : ∃ Tx, typeOf (envM V K) x = Tx := ⟨_, rfl⟩
    rw [hTx] at hp0 hxo
    obtain ⟨tx, cx⟩ := Tx
    unfold tyOk at hxo
    dsimp only at hp0 hxo
    subst hp0
    obtain ⟨a7, c7, hv7, _⟩ := id r1.len
    obtain ⟨a8, c8, hv8, _⟩ := id r2.len
    subst hv7; subst hv8
    have htx := typesOf_own w0 bl mv mk V K x _ _ (tx, 0) hTx (by omega) r1 r2
    repeat (first | refine zck ?_ | refine zcl ?_ | refine zcm ?_ | refine zcn ?_)
    first | refine zcp (by kernel_rfl) ?_ | refine zcq PP_mixed (by kernel_rfl) (by kernel_rfl) ?_
    repeat' (refine zap rfl ?_; first | refine zbg rfl rfl (by omega) ?_)
    all_goals refine zch ?_
    all_goals repeat (first | refine zck ?_ | refine zcl ?_ | refine zcm ?_ | refine zcn ?_)
    refine zci rfl ?_
    repeat (first | refine zck ?_ | refine zcl ?_ | refine zcm ?_ | refine zcn ?_)
    first | refine zcp (by kernel_rfl) ?_ | refine zcq PP_mixed (by kernel_rfl) (by kernel_rfl) ?_
    repeat' (refine zap rfl ?_; first | refine zad rfl (fun hF Γ w h1 h2 => e2 hF Γ w (fun p hp => h1 p (List.mem_append_right _ hp)) h2) (e3 _ (by omega)) ?_ | refine zar (fun t14 => ?_) | refine zae 2 rfl rfl rfl rfl rfl rfl rfl ?_ | refine zas rfl rfl (by omega) ?_)
    all_goals refine zch ?_
    all_goals repeat (first | refine zck ?_ | refine zcl ?_ | refine zcm ?_ | refine zcn ?_)
    refine run_share [2] rfl ?_
    repeat (first | refine zck ?_ | refine zcl ?_ | refine zcm ?_ | refine zcn ?_)
    first | refine zcp (by kernel_rfl) ?_ | refine zcq PP_mixed (by kernel_rfl) (by kernel_rfl) ?_
    repeat' (refine zap rfl ?_; first | refine zan rfl ?_ | refine zan rfl ?_ | refine zaa 0 rfl rfl rfl ?_ | (refine zai [0, 0] htx rfl rfl rfl (fun p hp => by simp [hp]) ?_; rintro v Γ ⟨rfl, rfl⟩) | refine zce rfl ?_ | refine zan rfl ?_)
    all_goals refine zch ?_
    all_goals repeat (first | refine zck ?_ | refine zcl ?_ | refine zcm ?_ | refine zcn ?_)
    refine run_take [1, 0] rfl ?_
    repeat (first | refine zck ?_ | refine zcl ?_ | refine zcm ?_ | refine zcn ?_ | refine zco ?_)
    rcases (by omega : tx = 1 ∨ tx = 2) with rfl | rfl
    all_goals
      repeat (first | refine zck ?_ | refine zcl ?_ | refine zcm ?_ | refine zcn ?_)
      first | refine zcp (by kernel_rfl) ?_ | refine zcq PP_mixed (by kernel_rfl) (by kernel_rfl) ?_
      repeat' (refine zap rfl ?_; first | refine zaj rfl ?_ | refine zak rfl ?_ | refine zan rfl ?_ | refine zbe rfl rfl (by omega) ?_ | refine zbf rfl rfl (by omega) ?_ | refine zbu rfl ?_ | refine zbv rfl ?_)
      all_goals refine zch ?_
      all_goals repeat (first | refine zck ?_ | refine zcl ?_ | refine zcm ?_ | refine zcn ?_)
      refine zcj rfl ?_
      repeat' (first | refine zcp (by kernel_rfl) ?_ | refine zcm ?_ | refine zcn ?_ | (refine zap rfl ?_; first | refine zan rfl ?_ | refine zau rfl rfl (by omega) ?_) | refine zch ?_)
      exact cut_end ⟨rfl, j + 1, ⟨rfl, rfl, rfl, rfl, rfl, rfl, rfl, int_eq (by omega), trivial⟩, ⟨rfl, by omega⟩, by omega⟩
  repeat (first | refine zck ?_ | refine zcl ?_ | refine zcm ?_ | refine zcn ?_)
  first | refine zcp (by kernel_rfl) ?_ | refine zcq PP_mixed (by kernel_rfl) (by kernel_rfl) ?_
  repeat' (refine zap rfl ?_; first | refine zbh rfl rfl (by omega) ?_)
  all_goals refine zch ?_
  all_goals repeat (first | refine zck ?_ | refine zcl ?_ | refine zcm ?_ | refine zcn ?_)
  refine zcj rfl ?_
  refine cut_exit rfl rfl ?_
  repeat (first | refine zck ?_ | refine zcl ?_ | refine zcm ?_ | refine zcn ?_)
  first | refine zcp (by kernel_rfl) ?_ | refine zcq PP_mixed (by kernel_rfl) (by kernel_rfl) ?_
  repeat' (refine zap rfl ?_; first | refine zan rfl ?_ | refine zaa 0 rfl rfl rfl ?_ | refine zce rfl ?_ | refine zao rfl ?_)
  all_goals refine zch ?_
  all_goals repeat (first | refine zck ?_ | refine zcl ?_ | refine zcm ?_ | refine zcn ?_)
  refine run_loop (S := Nat) (fun s => [(3, .pointer (some ⟨te, 0, none⟩)), (5, .pointer (some ⟨tp, 0, none⟩)), (7, .map (some mv)), (8, .map (some mk)), (11, .int .i64 t), (88, .slice i1 ws.length j1), (89, .int .i64 ws.length), (90, .int .i64 (s : Int))])
    (fun s Γ => Γ = [MapB mv (tvS (addV V (ws.take s))), MapB mk (kS K)] ∧ s ≤ ws.length) (fun s => ws.length - s) 0 ⟨rfl, rfl, rfl, rfl, rfl, rfl, rfl, rfl, trivial⟩ ⟨rfl, Nat.zero_le _⟩ ?_
  rintro i Γ junk2 ⟨rfl, q2⟩
  try dsimp only at q2 ⊢
  by_cases hi : i < ws.length
  · obtain ⟨x, hx⟩ : ∃ x, ws[i]? = some x := ⟨_, List.getElem?_eq_getElem hi⟩
    obtain ⟨b, off, cc, Tc, fr, rfl, e2, e3, _⟩ := g1.cells hx
    have hlk := lookV_S x.1 (addV V (ws.take i))
    have hnx := addV_next (m := V) hx
    repeat (first | refine zck ?_ | refine zcl ?_ | refine zcm ?_ | refine zcn ?_)
    first | refine zcp (by kernel_rfl) ?_ | refine zcq PP_mixed (by kernel_rfl) (by kernel_rfl) ?_
    repeat' (refine zap rfl ?_; first | refine zbg rfl rfl (by omega) ?_)
    all_goals refine zch ?_
    all_goals repeat (first | refine zck ?_ | refine zcl ?_ | refine zcm ?_ | refine zcn ?_)
    refine zci rfl ?_
    repeat (first | refine zck ?_ | refine zcl ?_ | refine zcm ?_ | refine zcn ?_)
    first | refine zcp (by kernel_rfl) ?_ | refine zcq PP_mixed (by kernel_rfl) (by kernel_rfl) ?_
    repeat' (refine zap rfl ?_; first | refine zad rfl (fun hF Γ w h1 h2 => e2 hF Γ w (fun p hp => by cases hp) h2) (e3 _ (by omega)) ?_ | refine zar (fun t18 => ?_) | refine zae 2 rfl rfl rfl rfl rfl rfl rfl ?_ | refine zas rfl rfl (by omega) ?_)
    all_goals refine zch ?_
    all_goals repeat (first | refine zck ?_ | refine zcl ?_ | refine zcm ?_ | refine zcn ?_)
    refine run_share [2] rfl ?_
    cases hL : lookV (addV V (ws.take i)) x.1 with
    | some q =>
      rw [hL] at hlk hnx
      rw [if_pos (show (some q).isSome = true from rfl)] at hnx
      repeat (first | refine zck ?_ | refine zcl ?_ | refine zcm ?_ | refine zcn ?_)
      first | refine zcp (by kernel_rfl) ?_ | refine zcq PP_mixed (by kernel_rfl) (by kernel_rfl) ?_
      repeat' (refine zap rfl ?_; first | refine reg_lookupB 0 (v := .tuple #[.int .i64 q, .bool true]) rfl rfl rfl (by rw [hlk]; rfl) ?_ | refine zan rfl ?_ | refine zan rfl ?_ | refine zaa 0 rfl rfl rfl ?_ | refine zao rfl ?_ | refine zan rfl ?_)
      all_goals refine zch ?_
      all_goals repeat (first | refine zck ?_ | refine zcl ?_ | refine zcm ?_ | refine zcn ?_)
      repeat (first | refine zck ?_ | refine zcl ?_ | refine zcm ?_ | refine zcn ?_)
      first | refine zcp (by kernel_rfl) ?_ | refine zcq PP_mixed (by kernel_rfl) (by kernel_rfl) ?_
      repeat' (refine zap rfl ?_; first | refine zan rfl ?_ | refine zbx rfl ?_)
      all_goals refine zch ?_
      all_goals repeat (first | refine zck ?_ | refine zcl ?_ | refine zcm ?_ | refine zcn ?_)
      refine zcj rfl ?_
      repeat' (first | refine zcp (by kernel_rfl) ?_ | refine zcm ?_ | refine zcn ?_ | (refine zap rfl ?_; first | refine zan rfl ?_ | refine zau rfl rfl (by omega) ?_) | refine zch ?_)
      refine cut_end ⟨rfl, i + 1, ⟨rfl, rfl, rfl, rfl, rfl, rfl, rfl, int_eq (by omega), trivial⟩, ⟨?_, by omega⟩, by omega⟩
      rw [hnx]
    | none =>
      rw [hL] at hlk hnx
      rw [if_neg (by decide)] at hnx
      have hput : ∀ A : Asn, putAt 0 (MapB mv (insS (tvS (addV V (ws.take i))) x.1 (.int .i64 x.2))) [MapB mv (tvS (addV V (ws.take i))), A] = some [MapB mv (tvS (addV V (ws.take (i + 1)))), A] := fun A => by rw [insV_S, hnx]; rfl
      repeat (first | refine zck ?_ | refine zcl ?_ | refine zcm ?_ | refine zcn ?_)
      first | refine zcp (by kernel_rfl) ?_ | refine zcq PP_mixed (by kernel_rfl) (by kernel_rfl) ?_
      repeat' (refine zap rfl ?_; first | refine reg_lookupB 0 (v := .tuple #[.int .i64 0, .bool false]) rfl rfl rfl (by rw [hlk]; rfl) ?_ | refine zan rfl ?_ | refine zan rfl ?_ | refine zaa 0 rfl rfl rfl ?_ | refine zao rfl ?_ | refine zan rfl ?_)
      all_goals refine zch ?_
      all_goals repeat (first | refine zck ?_ | refine zcl ?_ | refine zcm ?_ | refine zcn ?_)
      repeat (first | refine zck ?_ | refine zcl ?_ | refine zcm ?_ | refine zcn ?_)
      first | refine zcp (by kernel_rfl) ?_ | refine zcq PP_mixed (by kernel_rfl) (by kernel_rfl) ?_
      repeat' (refine zap rfl ?_; first | refine zan rfl ?_ | refine zbx rfl ?_)
      all_goals refine zch ?_
      all_goals repeat (first | refine zck ?_ | refine zcl ?_ | refine zcm ?_ | refine zcn ?_)
      refine zci rfl ?_
      repeat (first | refine zck ?_ | refine zcl ?_ | refine zcm ?_ | refine zcn ?_)
      first | refine zcp (by kernel_rfl) ?_ | refine zcq PP_mixed (by kernel_rfl) (by kernel_rfl) ?_
      repeat' (refine zap rfl ?_; first | refine reg_mapUpdateB 0 (u := .int .i64 x.2) rfl rfl rfl rfl (hput _) ?_ | refine zan rfl ?_ | refine zaa 0 rfl rfl rfl ?_ | refine zao rfl ?_)
      all_goals refine zch ?_
      all_goals repeat (first | refine zck ?_ | refine zcl ?_ | refine zcm ?_ | refine zcn ?_)
      repeat' (first | refine zcp (by kernel_rfl) ?_ | (refine zap rfl ?_; first | refine zan rfl ?_ | refine zau rfl rfl (by omega) ?_) | refine zch ?_)
      exact cut_end ⟨rfl, i + 1, ⟨rfl, rfl, rfl, rfl, rfl, rfl, rfl, int_eq (by omega), trivial⟩, ⟨rfl, by omega⟩, by omega⟩
  have hil : i = ws.length := by omega
  subst hil
  rw [List.take_of_length_le (Nat.le_refl _)]
  repeat (first | refine zck ?_ | refine zcl ?_ | refine zcm ?_ | refine zcn ?_)
  first | refine zcp (by kernel_rfl) ?_ | refine zcq PP_mixed (by kernel_rfl) (by kernel_rfl) ?_
  repeat' (refine zap rfl ?_; first | refine zbh rfl rfl (by omega) ?_)
  all_goals refine zch ?_
  all_goals repeat (first | refine zck ?_ | refine zcl ?_ | refine zcm ?_ | refine zcn ?_)
  refine zcj rfl ?_
  refine cut_exit rfl rfl ?_
  repeat (first | refine zck ?_ | refine zcl ?_ | refine zcm ?_ | refine zcn ?_)
  first | refine zcp (by kernel_rfl) ?_ | refine zcq PP_mixed (by kernel_rfl) (by kernel_rfl) ?_
  repeat' (refine zap rfl ?_; first | refine zan rfl ?_ | refine zaa 0 rfl rfl rfl ?_ | refine zce rfl ?_ | refine zao rfl ?_)
  all_goals refine zch ?_
  all_goals repeat (first | refine zck ?_ | refine zcl ?_ | refine zcm ?_ | refine zcn ?_)
  refine run_loop (S := Nat) (fun s => [(3, .pointer (some ⟨te, 0, none⟩)), (7, .map (some mv)), (8, .map (some mk)), (11, .int .i64 t), (110, .slice i2 ut.length j2), (111, .int .i64 ut.length), (112, .int .i64 (s : Int))])
    (fun s Γ => Γ = [MapB mv (tvS (addV V ws)), MapB mk (kS (addK K (ut.take s)))] ∧ s ≤ ut.length) (fun s => ut.length - s) 0 ⟨rfl, rfl, rfl, rfl, rfl, rfl, rfl, trivial⟩ ⟨rfl, Nat.zero_le _⟩ ?_
  rintro i Γ junk3 ⟨rfl, q3⟩
  try dsimp only at q3 ⊢
  by_cases hi : i < ut.length
  · obtain ⟨x, hx⟩ : ∃ x, ut[i]? = some x := ⟨_, List.getElem?_eq_getElem hi⟩
    obtain ⟨b, off, cc, Tc, fr, rfl, e2, e3, _⟩ := g2.cells hx
    have hlk := lookK_S x.1 (addK K (ut.take i))
    have hnx := addK_next (m := K) hx
    repeat (first | refine zck ?_ | refine zcl ?_ | refine zcm ?_ | refine zcn ?_)
    first | refine zcp (by kernel_rfl) ?_ | refine zcq PP_mixed (by kernel_rfl) (by kernel_rfl) ?_
    repeat' (refine zap rfl ?_; first | refine zbg rfl rfl (by omega) ?_)
    all_goals refine zch ?_
    all_goals repeat (first | refine zck ?_ | refine zcl ?_ | refine zcm ?_ | refine zcn ?_)
    refine zci rfl ?_
    repeat (first | refine zck ?_ | refine zcl ?_ | refine zcm ?_ | refine zcn ?_)
    first | refine zcp (by kernel_rfl) ?_ | refine zcq PP_mixed (by kernel_rfl) (by kernel_rfl) ?_
    repeat' (refine zap rfl ?_; first | refine zad rfl (fun hF Γ w h1 h2 => e2 hF Γ w (fun p hp => by cases hp) h2) (e3 _ (by omega)) ?_ | refine zar (fun t22 => ?_) | refine zae 2 rfl rfl rfl rfl rfl rfl rfl ?_ | refine zas rfl rfl (by omega) ?_)
    all_goals refine zch ?_
    all_goals repeat (first | refine zck ?_ | refine zcl ?_ | refine zcm ?_ | refine zcn ?_)
    refine run_share [2] rfl ?_
    cases hL : lookK (addK K (ut.take i)) x.1 with
    | some q =>
      rw [hL] at hlk hnx
      rw [if_pos (show (some q).isSome = true from rfl)] at hnx
      repeat (first | refine zck ?_ | refine zcl ?_ | refine zcm ?_ | refine zcn ?_)
      first | refine zcp (by kernel_rfl) ?_ | refine zcq PP_mixed (by kernel_rfl) (by kernel_rfl) ?_
      repeat' (refine zap rfl ?_; first | refine reg_lookupB 1 (v := .tuple #[.string q, .bool true]) rfl rfl rfl (by rw [hlk]; rfl) ?_ | refine zan rfl ?_ | refine zan rfl ?_ | refine zaa 0 rfl rfl rfl ?_ | refine zan rfl ?_ | refine zat rfl rfl (by omega) ?_)
      all_goals refine zch ?_
      all_goals repeat (first | refine zck ?_ | refine zcl ?_ | refine zcm ?_ | refine zcn ?_)
      repeat (first | refine zck ?_ | refine zcl ?_ | refine zcm ?_ | refine zcn ?_)
      first | refine zcp (by kernel_rfl) ?_ | refine zcq PP_mixed (by kernel_rfl) (by kernel_rfl) ?_
      repeat' (refine zap rfl ?_; first | refine zan rfl ?_ | refine zbx rfl ?_)
      all_goals refine zch ?_
      all_goals repeat (first | refine zck ?_ | refine zcl ?_ | refine zcm ?_ | refine zcn ?_)
      refine zcj rfl ?_
      repeat' (first | refine zcp (by kernel_rfl) ?_ | refine zcm ?_ | refine zcn ?_ | (refine zap rfl ?_; first | refine zan rfl ?_ | refine zau rfl rfl (by omega) ?_) | refine zch ?_)
      refine cut_end ⟨rfl, i + 1, ⟨rfl, rfl, rfl, rfl, rfl, rfl, int_eq (by omega), trivial⟩, ⟨?_, by omega⟩, by omega⟩
      rw [hnx]
    | none =>
      rw [hL] at hlk hnx
      rw [if_neg (by decide)] at hnx
      have hput : ∀ A : Asn, putAt 1 (MapB mk (insS (kS (addK K (ut.take i))) x.1 (.string x.2))) [A, MapB mk (kS (addK K (ut.take i)))] = some [A, MapB mk (kS (addK K (ut.take (i + 1))))] := fun A => by rw [insK_S, hnx]; rfl
      repeat (first | refine zck ?_ | refine zcl ?_ | refine zcm ?_ | refine zcn ?_)
      first | refine zcp (by kernel_rfl) ?_ | refine zcq PP_mixed (by kernel_rfl) (by kernel_rfl) ?_
      repeat' (refine zap rfl ?_; first | refine reg_lookupB 1 (v := .tuple #[.string (bs []), .bool false]) rfl rfl rfl (by rw [hlk]; rfl) ?_ | refine zan rfl ?_ | refine zan rfl ?_ | refine zaa 0 rfl rfl rfl ?_ | refine zan rfl ?_ | refine zat rfl rfl (by omega) ?_)
      all_goals refine zch ?_
      all_goals repeat (first | refine zck ?_ | refine zcl ?_ | refine zcm ?_ | refine zcn ?_)
      repeat (first | refine zck ?_ | refine zcl ?_ | refine zcm ?_ | refine zcn ?_)
      first | refine zcp (by kernel_rfl) ?_ | refine zcq PP_mixed (by kernel_rfl) (by kernel_rfl) ?_
      repeat' (refine zap rfl ?_; first | refine zan rfl ?_ | refine zbx rfl ?_)
      all_goals refine zch ?_
      all_goals repeat (first | refine zck ?_ | refine zcl ?_ | refine zcm ?_ | refine zcn ?_)
      refine zci rfl ?_
      repeat (first | refine zck ?_ | refine zcl ?_ | refine zcm ?_ | refine zcn ?_)
      first | refine zcp (by kernel_rfl) ?_ | refine zcq PP_mixed (by kernel_rfl) (by kernel_rfl) ?_
      repeat' (refine zap rfl ?_; first | refine reg_mapUpdateB 1 (u := .string x.2) rfl rfl rfl rfl (hput _) ?_ | refine zan rfl ?_ | refine zaa 0 rfl rfl rfl ?_ | refine zat rfl rfl (by omega) ?_)
      all_goals refine zch ?_
      all_goals repeat (first | refine zck ?_ | refine zcl ?_ | refine zcm ?_ | refine zcn ?_)
      repeat' (first | refine zcp (by kernel_rfl) ?_ | (refine zap rfl ?_; first | refine zan rfl ?_ | refine zau rfl rfl (by omega) ?_) | refine zch ?_)
      exact cut_end ⟨rfl, i + 1, ⟨rfl, rfl, rfl, rfl, rfl, rfl, int_eq (by omega), trivial⟩, ⟨rfl, by omega⟩, by omega⟩
  have hil : i = ut.length := by omega
  subst hil
  rw [List.take_of_length_le (Nat.le_refl _)]
  repeat (first | refine zck ?_ | refine zcl ?_ | refine zcm ?_ | refine zcn ?_)
  first | refine zcp (by kernel_rfl) ?_ | refine zcq PP_mixed (by kernel_rfl) (by kernel_rfl) ?_
  repeat' (refine zap rfl ?_; first | refine zbh rfl rfl (by omega) ?_)
  all_goals refine zch ?_
  all_goals repeat (first | refine zck ?_ | refine zcl ?_ | refine zcm ?_ | refine zcn ?_)
  refine zcj rfl ?_
  refine cut_exit rfl rfl ?_
  have hmo := typeOf_mono (env_le V ws K ut) (e := e) (by rw [hT])
  rw [hT] at hmo
  have hty2 := typesOf_own w0 [] mv mk (addV V ws) (addK K ut) e _ _ (t, 0) hmo hs ha ho
  repeat (first | refine zck ?_ | refine zcl ?_ | refine zcm ?_ | refine zcn ?_)
  first | refine zcp (by kernel_rfl) ?_ | refine zcq PP_mixed (by kernel_rfl) (by kernel_rfl) ?_
  repeat' (refine zap rfl ?_; first | refine zan rfl ?_ | refine zan rfl ?_ | refine zaa 2 rfl rfl rfl ?_ | (refine zai [0, 0] hty2 rfl rfl rfl sub_nil ?_; rintro v Γ ⟨rfl, rfl⟩) | refine zan rfl ?_)
  all_goals refine zch ?_
  all_goals repeat (first | refine zck ?_ | refine zcl ?_ | refine zcm ?_ | refine zcn ?_)
  refine run_take [] rfl ?_
  repeat (first | refine zck ?_ | refine zcl ?_ | refine zcm ?_ | refine zcn ?_ | refine zco ?_)
  rcases ht with rfl | rfl
  all_goals
    repeat' (first | refine zcp (by kernel_rfl) ?_ | (refine zap rfl ?_; first | refine zaj rfl ?_ | refine zak rfl ?_ | refine zan rfl ?_ | refine zan rfl ?_ | refine zah [] haw rfl rfl rfl sub_nil rfl ?_ | refine zbc rfl rfl (by omega) ?_ | refine zbd rfl rfl (by omega) ?_ | refine zbu rfl ?_ | refine zbv rfl ?_) | refine zch ?_)
    exact ret_tmp1 rfl ⟨rfl, rfl⟩
end Go.Proofs.YtijbnjaackhlcaaGreatDoor

namespace Sim
open Go Go.Vc
theorem wrapS_size (h num : Int) (b : List PS) : PS.size (wrapS h num b) ≤ PS.sizeL b + 4 := by
  unfold wrapS exB1 exN0
  split
  · simp only [PS.size, PS.sizeL, PE.size, PE.sizeL]; omega
  split <;> (simp only [PS.size, PS.sizeL, PE.size, PE.sizeL]; omega)
theorem wrapS_expr (h num : Int) (b : List PS) : (wrapS h num b).expr.args = [] ∧ (wrapS h num b).expr.or = [] := by
  unfold wrapS
  split
  · exact ⟨rfl, rfl⟩
  split <;> exact ⟨rfl, rfl⟩
end Sim
namespace Go.Proofs.YtijbnjaackhlcaaGreatDoor
open Go.Vc Sim
theorem small_with {p : PP'} {o : PO} {l : List PO} {b : List PS} (hp : p.opers = o :: l) (h : PO.costL p.opers + p.stores.length ≤ 400) (hb : PS.sizeL b ≤ 1000) : PP'.small (withB p o l b) ∧ ∀ x ∈ (withB p o l b).opers, PS.sizeL x.body ≤ 10000 := by
  rw [hp] at h
  have h1 := PO.costL_len (o :: l)
  simp only [List.length_cons] at h1
  unfold withB
  refine ⟨⟨by dsimp only; omega, by simp only [List.length_cons]; omega, fun x hx => ?_⟩, fun x hx => ?_⟩
  all_goals
    rcases List.mem_cons.1 hx with rfl | hx
    · have h2 := PO.costL_mem (List.Mem.head (a := o) l)
      unfold PO.cost at h2
      dsimp only
      omega
    · have h2 := PO.costL_mem (List.Mem.tail o hx)
      unfold PO.cost at h2
      omega
theorem tyCheck_lent (w0 : World) (hk : KwOk w0) (sh : Shared) (vs : Value) (bq n c : Nat) (cls : List (List Value)) (q : PP') (T : ByteArray × Int) (hT : tyP q = T) (h3 : ∀ x ∈ cls, x.length = 3) (hn : cls.length = n)
    (hq : ∀ sh', (∀ p ∈ sh, p ∈ sh') → RdSl w0 sh' (fun x : List Value => x) 3 (.slice (some ⟨bq, 0, none⟩) n c) cls → RdP w0 sh' (.agg #[vs, .slice (some ⟨bq, 0, none⟩) n c]) q) (hs : PP'.small q) (hb : ∀ o ∈ q.opers, PS.sizeL o.body ≤ 10000) :
    Vc.Fn PP w0 sh 11 [.agg #[vs, .slice (some ⟨bq, 0, none⟩) n c]] [SlA 34 3 (some ⟨bq, 0, none⟩) n c (cls.flatMap fun x => x)] (fun r Γ => r = .tuple #[.string T.1, .int .i64 T.2] ∧ Γ = [SlA 34 3 (some ⟨bq, 0, none⟩) n c (cls.flatMap fun x => x)]) := by
  subst hT
  refine (Fn.lendSl (fun x : List Value => x) en11 h3 hn (fun sh1 s1 r1 => typesCheck_spec w0 hk sh1 _ q (hq sh1 s1 r1) hs hb)).mono ?_
  rintro r Γ ⟨_, ⟨rfl, rfl⟩, rfl⟩
  exact ⟨rfl, rfl⟩
theorem synCheck_lent (w0 : World) (hk : KwOk w0) (sh : Shared) (vs : Value) (bq n c : Nat) (cls : List (List Value)) (q : PP') (h3 : ∀ x ∈ cls, x.length = 3) (hn : cls.length = n)
    (hq : ∀ sh', (∀ p ∈ sh, p ∈ sh') → RdSl w0 sh' (fun x : List Value => x) 3 (.slice (some ⟨bq, 0, none⟩) n c) cls → RdP w0 sh' (.agg #[vs, .slice (some ⟨bq, 0, none⟩) n c]) q) (hs : PP'.small q) :
    Vc.Fn PP w0 sh 13 [.agg #[vs, .slice (some ⟨bq, 0, none⟩) n c]] [SlA 34 3 (some ⟨bq, 0, none⟩) n c (cls.flatMap fun x => x)] (fun r Γ => r = .int .i64 (checkP q) ∧ Γ = [SlA 34 3 (some ⟨bq, 0, none⟩) n c (cls.flatMap fun x => x)]) := by
  refine (Fn.lendSl (fun x : List Value => x) en13 h3 hn (fun sh1 s1 r1 => check_spec w0 hk sh1 _ q (hq sh1 s1 r1) hs)).mono ?_
  rintro r Γ ⟨_, ⟨rfl, rfl⟩, rfl⟩
  exact ⟨rfl, rfl⟩
set_option maxHeartbeats 16000000 in
theorem typesWrapsLaw_spec (w0 : World) (hk : KwOk w0) (v : Value) (p : PP') (h8 k8 : Nat) (hp : RdP w0 [] v p) (hz : p.sz) (hh8 : h8 ≤ 255) (hk8 : k8 ≤ 255) :
    FnE PP w0 [] 4 [v, .int .u8 (h8 : Int), .int .u8 (k8 : Int)] [] (.bool true) [] := by
  have haw := awake_spec w0 hk
  have hgr := greatP_spec w0 [] v p hp hz
  have hp0 := hp
  obtain ⟨vs, vo, rfl, h1, h2⟩ := hp
  obtain ⟨a1, c1, hvs, hc1, _⟩ := id h1
  obtain ⟨a2, c2, hvo, hc2⟩ := h2.len
  subst hvs; subst hvo
  refine fn_of_run en4 fn4 rfl rfl rfl ?_
  repeat (first | refine zck ?_ | refine zcl ?_ | refine zcm ?_ | refine zcn ?_)
  first | refine zcp (by kernel_rfl) ?_ | refine zcq PP_mixed (by kernel_rfl) (by kernel_rfl) ?_
  repeat' (refine zap rfl ?_; first | refine zaq (cs := [_, _]) rfl (fun tp => ?_) | refine zan rfl ?_)
  all_goals refine zch ?_
  all_goals repeat (first | refine zck ?_ | refine zcl ?_ | refine zcm ?_ | refine zcn ?_)
  refine run_share [0] rfl ?_
  by_cases hn : p.opers.length = 0
  · repeat (first | refine zck ?_ | refine zcl ?_ | refine zcm ?_ | refine zcn ?_)
    first | refine zcp (by kernel_rfl) ?_ | refine zcq PP_mixed (by kernel_rfl) (by kernel_rfl) ?_
    repeat' (refine zap rfl ?_; first | refine zaa 0 rfl rfl rfl ?_ | refine zaj rfl ?_ | refine zak rfl ?_ | refine zan rfl ?_ | (refine zai [] hgr rfl rfl rfl sub_nil ?_; rintro v Γ ⟨rfl, B, rfl, hB⟩; cases B) | refine zce rfl ?_ | refine zao rfl ?_ | refine zbc rfl rfl (by omega) ?_ | refine zbu rfl ?_ | refine zbv rfl ?_)
    all_goals refine zch ?_
    all_goals repeat (first | refine zck ?_ | refine zcl ?_ | refine zcm ?_ | refine zcn ?_)
    all_goals
      repeat' (first | refine zck ?_ | refine zcp (by kernel_rfl) ?_ | (refine zap rfl ?_; first | refine zan rfl ?_ | refine zah [] haw rfl rfl rfl sub_nil rfl ?_) | refine zch ?_ | refine zci rfl ?_)
      exact ret_tmp1 rfl ⟨rfl, rfl⟩
  repeat (first | refine zck ?_ | refine zcl ?_ | refine zcm ?_ | refine zcn ?_)
  first | refine zcp (by kernel_rfl) ?_ | refine zcq PP_mixed (by kernel_rfl) (by kernel_rfl) ?_
  repeat' (refine zap rfl ?_; first | refine zaa 0 rfl rfl rfl ?_ | refine zaj rfl ?_ | refine zak rfl ?_ | refine zan rfl ?_ | (refine zai [] hgr rfl rfl rfl sub_nil ?_; rintro v Γ ⟨rfl, B, rfl, hB⟩; cases B) | refine zce rfl ?_ | refine zao rfl ?_ | refine zbd rfl rfl (by omega) ?_ | refine zbu rfl ?_ | refine zbv rfl ?_)
  all_goals refine zch ?_
  all_goals repeat (first | refine zck ?_ | refine zcl ?_ | refine zcm ?_ | refine zcn ?_)
  rotate_left
  · repeat' (first | refine zck ?_ | refine zcp (by kernel_rfl) ?_ | (refine zap rfl ?_; first | refine zan rfl ?_ | refine zah [] haw rfl rfl rfl sub_nil rfl ?_) | refine zch ?_ | refine zci rfl ?_)
    exact ret_tmp1 rfl ⟨rfl, rfl⟩
  refine zcj rfl ?_
  have hcost := hB rfl
  obtain ⟨o, rest, hol⟩ : ∃ o l, p.opers = o :: l := by
    cases hq : p.opers with
    | nil => rw [hq] at hn; exact absurd rfl hn
    | cons o l => exact ⟨o, l, rfl⟩
  obtain ⟨sm1, sm2⟩ := small_of hcost
  have hty := typesCheck_spec w0 hk [] _ p hp0 sm1 (fun x hx => Nat.le_trans (sm2 x hx) (by omega))
  obtain ⟨cl, hcl, hos⟩ := id h2
  have hcn := hos.len
  obtain ⟨hone, h3l⟩ := hos.flat
  rw [hol] at hos
  obtain ⟨c0, cl', rfl, ⟨vp, vb, rfl, hpar, hbody⟩, hos'⟩ := hos
  obtain ⟨ab, cb, rfl, _⟩ := hbody.len
  obtain ⟨ap, cp, rfl, _⟩ := id hpar
  have n0 : 0 < p.opers.length := by omega
  have n400 : p.opers.length ≤ 400 := by have := PO.costL_len p.opers; omega
  have ho : o ∈ p.opers := by rw [hol]; exact .head _
  have nb400 := sm2 o ho
  have nbl := PS.sizeL_len o.body
  repeat (first | refine zck ?_ | refine zcl ?_ | refine zcm ?_ | refine zcn ?_)
  first | refine zcp (by kernel_rfl) ?_ | refine zcq PP_mixed (by kernel_rfl) (by kernel_rfl) ?_
  repeat' (refine zap rfl ?_; first | refine zaa 0 rfl rfl rfl ?_ | refine zan rfl ?_ | refine zan rfl ?_ | refine zah [] hty rfl rfl rfl sub_nil rfl ?_ | refine zan rfl ?_)
  all_goals refine zch ?_
  all_goals repeat (first | refine zck ?_ | refine zcl ?_ | refine zcm ?_ | refine zcn ?_)
  by_cases hC : (tyP p).2 = 0
  rotate_left
  · repeat (first | refine zck ?_ | refine zcl ?_ | refine zcm ?_ | refine zcn ?_)
    first | refine zcp (by kernel_rfl) ?_ | refine zcq PP_mixed (by kernel_rfl) (by kernel_rfl) ?_
    repeat' (refine zap rfl ?_; first | refine zan rfl ?_ | refine zbe rfl rfl (by omega) ?_)
    all_goals refine zch ?_
    all_goals repeat (first | refine zck ?_ | refine zcl ?_ | refine zcm ?_ | refine zcn ?_)
    refine zci rfl ?_
    repeat' (first | refine zck ?_ | refine zcp (by kernel_rfl) ?_ | (refine zap rfl ?_; first | refine zan rfl ?_ | refine zah [] haw rfl rfl rfl sub_nil rfl ?_) | refine zch ?_)
    exact ret_tmp1 rfl ⟨rfl, rfl⟩
  have hWp := wellP_iff.1 hC
  repeat (first | refine zck ?_ | refine zcl ?_ | refine zcm ?_ | refine zcn ?_)
  first | refine zcp (by kernel_rfl) ?_ | refine zcq PP_mixed (by kernel_rfl) (by kernel_rfl) ?_
  repeat' (refine zap rfl ?_; first | refine zan rfl ?_ | refine zbf rfl rfl (by omega) ?_)
  all_goals refine zch ?_
  all_goals repeat (first | refine zck ?_ | refine zcl ?_ | refine zcm ?_ | refine zcn ?_)
  refine zcj rfl ?_
  repeat (first | refine zck ?_ | refine zcl ?_ | refine zcm ?_ | refine zcn ?_)
  first | refine zcp (by kernel_rfl) ?_ | refine zcq PP_mixed (by kernel_rfl) (by kernel_rfl) ?_
  repeat' (refine zap rfl ?_; first | refine zaa 0 rfl rfl rfl ?_ | refine zar (fun t9 => ?_) | refine zae 0 rfl rfl rfl rfl rfl rfl rfl ?_)
  all_goals refine zch ?_
  all_goals repeat (first | refine zck ?_ | refine zcl ?_ | refine zcm ?_ | refine zcn ?_)
  repeat (first | refine zck ?_ | refine zcl ?_ | refine zcm ?_ | refine zcn ?_)
  first | refine zcp (by kernel_rfl) ?_ | refine zcq PP_mixed (by kernel_rfl) (by kernel_rfl) ?_
  repeat' (refine zap rfl ?_; first | refine zaa 0 rfl rfl rfl ?_ | refine reg_buildSlice rfl rfl rfl rfl rfl rfl (fun nb => ?_) | refine zae 0 rfl rfl rfl rfl rfl rfl rfl ?_ | (refine reg_own 1 rfl rfl (len := 0) (cap := 0) (sz := 3) ⟨rfl, Nat.le_refl _, Nat.le_refl _⟩ rfl ?_; refine reg_append_rdE 1 rfl rfl (hcl.mono sub_nil) (by decide) hone rfl rfl (by omega) (fun _ _ => rfl) (fun aq cq => ?_)) | refine zao rfl ?_)
  all_goals refine zch ?_
  all_goals repeat (first | refine zck ?_ | refine zcl ?_ | refine zcm ?_ | refine zcn ?_)
  refine run_sl_cases 1 rfl (fun _ h0 => absurd h0 (by omega)) (fun bq hbq _ _ => ?_)
  subst hbq
  obtain ⟨nq, hnq⟩ : ∃ nq, nq = 0 + ([Value.string o.name, .slice ap o.params.length cp, .slice ab o.body.length cb] :: cl').length := ⟨_, rfl⟩
  have hnl : cl'.length + 1 = nq := by rw [hnq, List.length_cons]; omega
  refine run_exch 0 (pt t9 (.cells (List.toArray [.slice a1 p.stores.length c1, .slice (some ⟨bq, 0, none⟩) nq cq]) 25 (0, 0))) rfl (fun g hg => by rw [hnq]; exact hg) rfl ?_
  refine run_exch 1 (SlA 34 3 (some ⟨bq, 0, none⟩) nq cq (([Value.string o.name, .slice ap o.params.length cp, .slice ab o.body.length cb] :: cl').flatMap fun x => x)) rfl (fun g hg => by rw [hnq]; exact hg) rfl ?_
  refine run_share [0] rfl ?_
  repeat (first | refine zck ?_ | refine zcl ?_ | refine zcm ?_ | refine zcn ?_ | refine zco ?_)
  repeat (first | refine zck ?_ | refine zcl ?_ | refine zcm ?_ | refine zcn ?_)
  first | refine zcp (by kernel_rfl) ?_ | refine zcq PP_mixed (by kernel_rfl) (by kernel_rfl) ?_
  repeat' (refine zap rfl ?_; first | refine zaa 0 rfl rfl rfl ?_ | refine zag 0 rfl rfl rfl (fun _ => by decide) ?_ | refine zar (fun t10 => ?_) | refine zao rfl ?_ | refine zae 1 rfl rfl rfl rfl rfl rfl rfl ?_ | refine zas rfl rfl (by omega) ?_)
  all_goals refine zch ?_
  all_goals repeat (first | refine zck ?_ | refine zcl ?_ | refine zcm ?_ | refine zcn ?_)
  refine run_exch 1 (pt t10 (.cells (List.toArray [.string o.name, .slice ap o.params.length cp, .slice ab o.body.length cb]) 34 (0, 0))) rfl (fun g hg => hg) rfl ?_
  repeat (first | refine zck ?_ | refine zcl ?_ | refine zcm ?_ | refine zcn ?_)
  first | refine zcp (by kernel_rfl) ?_ | refine zcq PP_mixed (by kernel_rfl) (by kernel_rfl) ?_
  repeat' (refine zap rfl ?_; first | refine zan rfl ?_ | refine zab 1 rfl rfl rfl ?_ | refine zao rfl ?_)
  all_goals refine zch ?_
  all_goals repeat (first | refine zck ?_ | refine zcl ?_ | refine zcm ?_ | refine zcn ?_)
  repeat (first | refine zck ?_ | refine zcl ?_ | refine zcm ?_ | refine zcn ?_)
  first | refine zcp (by kernel_rfl) ?_ | refine zcq PP_mixed (by kernel_rfl) (by kernel_rfl) ?_
  repeat' (refine zap rfl ?_; first | refine zar (fun t12 => ?_) | refine zan rfl ?_ | refine zae 2 rfl rfl rfl rfl rfl rfl rfl ?_ | refine zcb rfl ?_)
  all_goals refine zch ?_
  all_goals repeat (first | refine zck ?_ | refine zcl ?_ | refine zcm ?_ | refine zcn ?_)
  obtain ⟨mI, hmI⟩ : ∃ mI, mI = (h8 : Int).tmod 3 := ⟨_, rfl⟩
  obtain ⟨kI, hkI⟩ : ∃ kI, kI = (k8 : Int).tmod 65 := ⟨_, rfl⟩
  have hmI0 : 0 ≤ mI ∧ mI ≤ 2 := by
    rw [Int.tmod_eq_emod_of_nonneg (by omega)] at hmI
    omega
  have hkI0 : 0 ≤ kI ∧ kI ≤ 64 := by
    rw [Int.tmod_eq_emod_of_nonneg (by omega)] at hkI
    omega
  repeat (first | refine zck ?_ | refine zcl ?_ | refine zcm ?_ | refine zcn ?_)
  first | refine zcp (by kernel_rfl) ?_ | refine zcq PP_mixed (by kernel_rfl) (by kernel_rfl) ?_
  repeat' (refine zap rfl ?_; first | (refine reg_rem rfl rfl (by decide) ?_; rw [← hmI]) | refine zan rfl ?_)
  all_goals refine zch ?_
  all_goals repeat (refine zck ?_)
  repeat (first | refine zck ?_ | refine zcm ?_)
  refine run_join (S := PS × Value × Value) (fun _ => [(9, .pointer (some ⟨t9, 0, none⟩)), (10, .pointer (some ⟨t10, 0, none⟩)), (11, .slice ab o.body.length cb), (12, .pointer (some ⟨t12, 0, none⟩))])
    (fun s Γ => Γ = [SlA 34 3 (some ⟨bq, 0, none⟩) nq cq (([Value.string o.name, .slice ap o.params.length cp, .slice ab o.body.length cb] :: cl').flatMap fun x => x), pt t10 (.cells (List.toArray [.string o.name, .slice ap o.params.length cp, .slice ab o.body.length cb]) 34 (0, 0)), pt t12 (.cells (List.toArray (psC s.1 nilS nilS s.2.1 s.2.2)) 43 (0, 0))] ∧ (∃ hh num, s.1 = wrapS hh num o.body) ∧ RdSt w0 [] s.2.1 s.1.body ∧ RdSt w0 [] s.2.2 s.1.els) ?_ ?_
  · rcases (by omega : mI = 1 ∨ mI = 2 ∨ mI = 0) with m1 | m1 | m1
    · clear hmI
      subst m1
      repeat' (first | refine zck ?_ | refine zcp (by kernel_rfl) ?_ | refine zcl ?_ | refine zcn ?_ | (refine zap rfl ?_; first | refine zan rfl ?_ | refine zan rfl ?_ | refine zao rfl ?_ | refine zbc rfl rfl (by omega) ?_ | refine zae 2 rfl rfl rfl rfl rfl rfl rfl ?_) | refine zch ?_ | refine zci rfl ?_)
      exact cut_end ⟨rfl, (wrapS 1 0 o.body, nilS, .slice ab o.body.length cb), ⟨rfl, rfl, rfl, rfl, trivial⟩, ⟨rfl, ⟨1, 0, rfl⟩, RdSt.nil0, hbody⟩⟩
    · clear hmI
      subst m1
      repeat' (first | refine zck ?_ | refine zcp (by kernel_rfl) ?_ | refine zcl ?_ | refine zcn ?_ | (refine zap rfl ?_; first | (refine reg_rem rfl rfl (by decide) ?_; rw [← hkI]) | refine zan rfl ?_ | refine zan rfl ?_ | refine zbc rfl rfl (by omega) ?_ | refine zbd rfl rfl (by omega) ?_ | refine zae 2 rfl rfl rfl rfl rfl rfl rfl ?_ | refine zcb rfl ?_ | refine zbz rfl (by omega) ?_) | refine zch ?_ | refine zci rfl ?_ | refine zcj rfl ?_)
      exact cut_end ⟨rfl, (wrapS 2 kI o.body, .slice ab o.body.length cb, nilS), ⟨rfl, rfl, rfl, rfl, trivial⟩, ⟨rfl, ⟨2, kI, rfl⟩, hbody, RdSt.nil0⟩⟩
    · clear hmI
      subst m1
      repeat' (first | refine zck ?_ | refine zcp (by kernel_rfl) ?_ | refine zcm ?_ | refine zcl ?_ | refine zcn ?_ | (refine zap rfl ?_; first | refine zan rfl ?_ | refine zbd rfl rfl (by omega) ?_) | refine zch ?_ | refine zcj rfl ?_)
      exact cut_end ⟨rfl, (wrapS 0 0 o.body, .slice ab o.body.length cb, nilS), ⟨rfl, rfl, rfl, rfl, trivial⟩, ⟨rfl, ⟨0, 0, rfl⟩, hbody, RdSt.nil0⟩⟩
  rintro ⟨W, xb, yb⟩ Γ junk ⟨rfl, ⟨hh, num, hW⟩, rx, ry⟩
  dsimp only at hW rx ry ⊢
  obtain ⟨ax, cx, rfl, _⟩ := rx.len
  obtain ⟨ay, cy, rfl, _⟩ := ry.len
  have hwe := wrapS_expr hh num o.body
  have hws := wrapS_size hh num o.body
  rw [← hW] at hwe hws
  repeat (first | refine zck ?_ | refine zcl ?_ | refine zcm ?_ | refine zcn ?_)
  first | refine zcp (by kernel_rfl) ?_ | refine zcq PP_mixed (by kernel_rfl) (by kernel_rfl) ?_
  repeat' (refine zap rfl ?_; first | refine reg_buildSlice rfl rfl rfl rfl rfl rfl (fun s16 => ?_) | refine zab 2 rfl rfl rfl ?_ | refine zao rfl ?_ | refine zae 1 rfl rfl rfl rfl rfl rfl rfl ?_)
  all_goals refine zch ?_
  all_goals repeat (first | refine zck ?_ | refine zcl ?_ | refine zcm ?_ | refine zcn ?_)
  refine run_exch 1 (pt t10 (.cells (List.toArray [.string o.name, .slice ap o.params.length cp, .slice (some ⟨s16, 0, none⟩) 1 1]) 34 (0, 0))) rfl (fun g hg => hg) rfl ?_
  repeat (first | refine zck ?_ | refine zcl ?_ | refine zcm ?_ | refine zcn ?_)
  first | refine zcp (by kernel_rfl) ?_ | refine zcq PP_mixed (by kernel_rfl) (by kernel_rfl) ?_
  repeat' (refine zap rfl ?_; first | refine zaa 0 rfl rfl rfl ?_ | refine zaf 0 rfl rfl rfl rfl rfl rfl rfl ?_ | refine zab 1 rfl rfl rfl ?_ | refine zao rfl ?_ | refine zas rfl rfl (by omega) ?_)
  all_goals refine zch ?_
  all_goals repeat (first | refine zck ?_ | refine zcl ?_ | refine zcm ?_ | refine zcn ?_)
  refine run_exch 0 (SlA 34 3 (some ⟨bq, 0, none⟩) nq cq (([Value.string o.name, .slice ap o.params.length cp, .slice (some ⟨s16, 0, none⟩) 1 1] :: cl').flatMap fun x => x)) rfl (fun g hg => hg) rfl ?_
  refine run_exch 3 (pt s16 (.cells (List.toArray (psC W nilS nilS (.slice ax W.body.length cx) (.slice ay W.els.length cy) ++ [])) 43 (0, 0))) rfl (fun g hg => hg) rfl ?_
  refine run_share [3] rfl ?_
  refine run_share [2] rfl ?_
  refine run_take [0] rfl ?_
  repeat (first | refine zck ?_ | refine zcl ?_ | refine zcm ?_ | refine zcn ?_ | refine zco ?_)
  have h3c : ∀ u : Value, ∀ x ∈ [Value.string o.name, .slice ap o.params.length cp, u] :: cl', x.length = 3 := fun u x hx => by
    rcases List.mem_cons.1 hx with rfl | hx
    · rfl
    · exact h3l x (.tail _ hx)
  have hlc : ∀ u : Value, ([Value.string o.name, .slice ap o.params.length cp, u] :: cl').length = nq := fun u => by rw [List.length_cons]; exact hnl
  have hRW : ∀ sh' : Shared, RdS w0 sh' W (psC W nilS nilS (.slice ax W.body.length cx) (.slice ay W.els.length cy)) := fun sh' => RdS.of (by rw [hwe.1]; exact RdEl.nil0) (by rw [hwe.2]; exact RdEl.nil0) (rx.mono sub_nil) (ry.mono sub_nil)
  have hq : ∀ sh' : Shared, (s16, Obj.cells (List.toArray (psC W nilS nilS (.slice ax W.body.length cx) (.slice ay W.els.length cy) ++ [])) 43 (0, 0)) ∈ sh' → RdSl w0 sh' (fun x : List Value => x) 3 (.slice (some ⟨bq, 0, none⟩) nq cq) ([Value.string o.name, .slice ap o.params.length cp, .slice (some ⟨s16, 0, none⟩) 1 1] :: cl') → RdP w0 sh' (.agg #[.slice a1 p.stores.length c1, .slice (some ⟨bq, 0, none⟩) nq cq]) (withB p o rest [W]) := fun sh' hm hr =>
    ⟨_, _, rfl, h1.mono sub_nil, _, hr, _, _, rfl, ⟨_, _, rfl, hpar.mono sub_nil, RdSt.one (hRW sh') rfl hm⟩, hos'.mono sub_nil⟩
  obtain ⟨u1, u2⟩ := small_with (b := [W]) hol hcost (by simp only [PS.sizeL]; omega)
  have hsc := fun sh' hm => synCheck_lent w0 hk sh' (.slice a1 p.stores.length c1) bq nq cq _ _ (h3c _) (hlc _) (fun sh2 hs hr => hq sh2 (hs _ hm) hr) u1
  by_cases hcq : checkP (withB p o rest [W]) = 0
  rotate_left
  · repeat (first | refine zck ?_ | refine zcl ?_ | refine zcm ?_ | refine zcn ?_)
    first | refine zcp (by kernel_rfl) ?_ | refine zcq PP_mixed (by kernel_rfl) (by kernel_rfl) ?_
    repeat' (refine zap rfl ?_; first | refine zaa 2 rfl rfl rfl ?_ | (refine zai [0] (hsc _ (.tail _ (.head _))) rfl rfl rfl (fun _ h => h) ?_; rintro v Γ ⟨rfl, rfl⟩) | refine zbe rfl rfl (by omega) ?_)
    all_goals refine zch ?_
    all_goals repeat (first | refine zck ?_ | refine zcl ?_ | refine zcm ?_ | refine zcn ?_)
    refine zci rfl ?_
    refine run_take [] rfl ?_
    repeat (first | refine zck ?_ | refine zcl ?_ | refine zcm ?_ | refine zcn ?_ | refine zco ?_)
    repeat' (first | refine zcp (by kernel_rfl) ?_ | (refine zap rfl ?_; first | refine zan rfl ?_ | refine zah [] haw rfl rfl rfl sub_nil rfl ?_) | refine zch ?_)
    exact ret_tmp1 rfl ⟨rfl, rfl⟩
  repeat (first | refine zck ?_ | refine zcl ?_ | refine zcm ?_ | refine zcn ?_)
  first | refine zcp (by kernel_rfl) ?_ | refine zcq PP_mixed (by kernel_rfl) (by kernel_rfl) ?_
  repeat' (refine zap rfl ?_; first | refine zaa 2 rfl rfl rfl ?_ | (refine zai [0] (hsc _ (.tail _ (.head _))) rfl rfl rfl (fun _ h => h) ?_; rintro v Γ ⟨rfl, rfl⟩) | refine zbf rfl rfl (by omega) ?_)
  all_goals refine zch ?_
  all_goals repeat (first | refine zck ?_ | refine zcl ?_ | refine zcm ?_ | refine zcn ?_)
  refine zcj rfl ?_
  have htq : (tyP (withB p o rest [W])).2 = 0 := by
    rw [hW] at hcq ⊢
    exact wrap_well hWp hol hcq
  obtain ⟨⟨n1, n2⟩, hTq⟩ : ∃ T, tyP (withB p o rest [W]) = T := ⟨_, rfl⟩
  rw [hTq] at htq
  have htq : n2 = 0 := htq
  subst htq
  have htc := fun sh' hm => tyCheck_lent w0 hk sh' (.slice a1 p.stores.length c1) bq nq cq _ _ _ hTq (h3c _) (hlc _) (fun sh2 hs hr => hq sh2 (hs _ hm) hr) u1 u2
  repeat (first | refine zck ?_ | refine zcl ?_ | refine zcm ?_ | refine zcn ?_)
  first | refine zcp (by kernel_rfl) ?_ | refine zcq PP_mixed (by kernel_rfl) (by kernel_rfl) ?_
  repeat' (refine zap rfl ?_; first | refine zaa 2 rfl rfl rfl ?_ | refine zan rfl ?_ | refine zan rfl ?_ | (refine zai [0] (htc _ (.tail _ (.head _))) rfl rfl rfl (fun _ h => h) ?_; rintro v Γ ⟨rfl, rfl⟩) | refine zan rfl ?_)
  all_goals refine zch ?_
  all_goals repeat (first | refine zck ?_ | refine zcl ?_ | refine zcm ?_ | refine zcn ?_)
  repeat (first | refine zck ?_ | refine zcl ?_ | refine zcm ?_ | refine zcn ?_)
  first | refine zcp (by kernel_rfl) ?_ | refine zcq PP_mixed (by kernel_rfl) (by kernel_rfl) ?_
  repeat' (refine zap rfl ?_; first | refine zan rfl ?_ | refine zbf rfl rfl (by omega) ?_)
  all_goals refine zch ?_
  all_goals repeat (first | refine zck ?_ | refine zcl ?_ | refine zcm ?_ | refine zcn ?_)
  refine zcj rfl ?_
  repeat (first | refine zck ?_ | refine zcl ?_ | refine zcm ?_ | refine zcn ?_)
  first | refine zcp (by kernel_rfl) ?_ | refine zcq PP_mixed (by kernel_rfl) (by kernel_rfl) ?_
  repeat' (refine zap rfl ?_; first | refine zan rfl ?_ | refine zce rfl ?_)
  all_goals refine zch ?_
  all_goals repeat (first | refine zck ?_ | refine zcl ?_ | refine zcm ?_ | refine zcn ?_)
  refine run_loop (S := Nat × Value) (fun s => [(9, .pointer (some ⟨t9, 0, none⟩)), (12, .pointer (some ⟨t12, 0, none⟩)), (83, .slice ab o.body.length cb), (84, .int .i64 o.body.length), (85, .int .i64 (s.1 : Int))])
    (fun s Γ => Γ = [SlA 34 3 (some ⟨bq, 0, none⟩) nq cq (([Value.string o.name, .slice ap o.params.length cp, s.2] :: cl').flatMap fun x => x)] ∧ s.1 ≤ o.body.length) (fun s => o.body.length - s.1) (0, .slice (some ⟨s16, 0, none⟩) 1 1) ⟨rfl, rfl, rfl, rfl, rfl, trivial⟩ ⟨rfl, Nat.zero_le _⟩ ?_
  rintro ⟨j, U⟩ Γ junk2 ⟨rfl, q1⟩
  dsimp only at q1 ⊢
  by_cases hj : j < o.body.length
  rotate_left
  · repeat (first | refine zck ?_ | refine zcl ?_ | refine zcm ?_ | refine zcn ?_)
    first | refine zcp (by kernel_rfl) ?_ | refine zcq PP_mixed (by kernel_rfl) (by kernel_rfl) ?_
    repeat' (refine zap rfl ?_; first | refine zbh rfl rfl (by omega) ?_)
    all_goals refine zch ?_
    all_goals repeat (first | refine zck ?_ | refine zcl ?_ | refine zcm ?_ | refine zcn ?_)
    refine zcj rfl ?_
    refine cut_exit rfl rfl ?_
    refine run_take [] rfl ?_
    repeat (first | refine zck ?_ | refine zcl ?_ | refine zcm ?_ | refine zcn ?_ | refine zco ?_)
    repeat' (first | refine zcp (by kernel_rfl) ?_ | (refine zap rfl ?_; first | refine zan rfl ?_ | refine zah [] haw rfl rfl rfl sub_nil rfl ?_) | refine zch ?_)
    exact ret_tmp1 rfl ⟨rfl, rfl⟩
  obtain ⟨x, hx⟩ : ∃ x, o.body[j]? = some x := ⟨_, List.getElem?_eq_getElem hj⟩
  obtain ⟨b, off, cc, Ty, fr, cs, rfl, e2, e3, e4, _⟩ := hbody.at hx
  obtain ⟨va, vo, vb, ve, rfl, hsp⟩ := e4.sp
  obtain ⟨p1, q1', hva, _⟩ := id hsp.a.len
  obtain ⟨p2, q2, hvo, _⟩ := id hsp.o.len
  obtain ⟨p3, q3, hvb, _⟩ := id hsp.b.len
  obtain ⟨p4, q4, hve, _⟩ := id hsp.e.len
  subst hva; subst hvo; subst hvb; subst hve
  have hxm := List.mem_iff_getElem?.2 ⟨_, hx⟩
  have hxn := PS.sizeL_mem hxm
  have hsz : x.size = 1 + x.expr.size + PS.sizeL x.body + PS.sizeL x.els := by cases x; rfl
  repeat (first | refine zck ?_ | refine zcl ?_ | refine zcm ?_ | refine zcn ?_)
  first | refine zcp (by kernel_rfl) ?_ | refine zcq PP_mixed (by kernel_rfl) (by kernel_rfl) ?_
  repeat' (refine zap rfl ?_; first | refine zbg rfl rfl (by omega) ?_)
  all_goals refine zch ?_
  all_goals repeat (first | refine zck ?_ | refine zcl ?_ | refine zcm ?_ | refine zcn ?_)
  refine zci rfl ?_
  repeat (first | refine zck ?_ | refine zcl ?_ | refine zcm ?_ | refine zcn ?_)
  first | refine zcp (by kernel_rfl) ?_ | refine zcq PP_mixed (by kernel_rfl) (by kernel_rfl) ?_
  repeat' (refine zap rfl ?_; first | refine zad rfl (fun hF Γ w h1 h2 => e2 hF Γ w (fun p hp => by cases hp) h2) (e3 _ (by omega)) ?_ | refine zar (fun t16 => ?_) | refine zae 1 rfl rfl rfl rfl rfl rfl rfl ?_ | refine zas rfl rfl (by omega) ?_)
  all_goals refine zch ?_
  all_goals repeat (first | refine zck ?_ | refine zcl ?_ | refine zcm ?_ | refine zcn ?_)
  refine run_share [1] rfl ?_
  by_cases hk0 : x.kind = 0
  rotate_left
  · repeat (first | refine zck ?_ | refine zcl ?_ | refine zcm ?_ | refine zcn ?_)
    first | refine zcp (by kernel_rfl) ?_ | refine zcq PP_mixed (by kernel_rfl) (by kernel_rfl) ?_
    repeat' (refine zap rfl ?_; first | refine zaa 0 rfl rfl rfl ?_ | refine zao rfl ?_ | refine zbe rfl rfl (by omega) ?_)
    all_goals refine zch ?_
    all_goals repeat (first | refine zck ?_ | refine zcl ?_ | refine zcm ?_ | refine zcn ?_)
    refine zci rfl ?_
    repeat' (first | refine zcp (by kernel_rfl) ?_ | refine zcs rfl ?_ | (refine zap rfl ?_; first | refine zan rfl ?_ | refine zau rfl rfl (by omega) ?_) | refine zch ?_)
    exact cut_end ⟨rfl, (j + 1, U), ⟨rfl, rfl, rfl, rfl, int_eq (by dsimp only; omega), trivial⟩, ⟨rfl, by dsimp only; omega⟩, by dsimp only; omega⟩
  repeat (first | refine zck ?_ | refine zcl ?_ | refine zcm ?_ | refine zcn ?_)
  first | refine zcp (by kernel_rfl) ?_ | refine zcq PP_mixed (by kernel_rfl) (by kernel_rfl) ?_
  repeat' (refine zap rfl ?_; first | refine zaa 0 rfl rfl rfl ?_ | refine zao rfl ?_ | refine zbf rfl rfl (by omega) ?_)
  all_goals refine zch ?_
  all_goals repeat (first | refine zck ?_ | refine zcl ?_ | refine zcm ?_ | refine zcn ?_)
  refine zcj rfl ?_
  repeat (first | refine zck ?_ | refine zcl ?_ | refine zcm ?_ | refine zcn ?_)
  first | refine zcp (by kernel_rfl) ?_ | refine zcq PP_mixed (by kernel_rfl) (by kernel_rfl) ?_
  repeat' (refine zap rfl ?_; first | refine zaa 0 rfl rfl rfl ?_ | refine zaa 1 rfl rfl rfl ?_ | refine zaa 3 rfl rfl rfl ?_ | refine reg_buildSlice rfl rfl rfl rfl rfl rfl (fun s27 => ?_) | refine zaf 0 rfl rfl rfl rfl rfl rfl rfl ?_ | refine zao rfl ?_ | refine zas rfl rfl (by omega) ?_ | refine zcb rfl ?_)
  all_goals refine zch ?_
  all_goals repeat (first | refine zck ?_ | refine zcl ?_ | refine zcm ?_ | refine zcn ?_)
  refine run_exch 0 (SlA 34 3 (some ⟨bq, 0, none⟩) nq cq (([Value.string o.name, .slice ap o.params.length cp, .slice (some ⟨s27, 0, none⟩) 2 2] :: cl').flatMap fun x => x)) rfl (fun g hg => hg) rfl ?_
  refine run_exch 1 (pt s27 (.cells (List.toArray (psC W nilS nilS (.slice ax W.body.length cx) (.slice ay W.els.length cy) ++ (psC (setS x) (.slice p1 x.expr.args.length q1') (.slice p2 x.expr.or.length q2) nilS nilS ++ []))) 43 (0, 0))) rfl (fun g hg => hg) rfl ?_
  refine run_share [1] rfl ?_
  repeat (first | refine zck ?_ | refine zcl ?_ | refine zcm ?_ | refine zcn ?_ | refine zco ?_)
  have hq2 : ∀ sh' : Shared, (s27, Obj.cells (List.toArray (psC W nilS nilS (.slice ax W.body.length cx) (.slice ay W.els.length cy) ++ (psC (setS x) (.slice p1 x.expr.args.length q1') (.slice p2 x.expr.or.length q2) nilS nilS ++ []))) 43 (0, 0)) ∈ sh' → RdSl w0 sh' (fun x : List Value => x) 3 (.slice (some ⟨bq, 0, none⟩) nq cq) ([Value.string o.name, .slice ap o.params.length cp, .slice (some ⟨s27, 0, none⟩) 2 2] :: cl') → RdP w0 sh' (.agg #[.slice a1 p.stores.length c1, .slice (some ⟨bq, 0, none⟩) nq cq]) (withB p o rest [W, setS x]) := fun sh' hm hr =>
    ⟨_, _, rfl, h1.mono sub_nil, _, hr, _, _, rfl, ⟨_, _, rfl, hpar.mono sub_nil, RdSt.two (hRW sh') rfl (RdS.of (s := setS x) (hsp.a.mono sub_nil) (hsp.o.mono sub_nil) RdSt.nil0 RdSt.nil0) rfl hm⟩, hos'.mono sub_nil⟩
  obtain ⟨w1, w2⟩ := small_with (b := [W, setS x]) hol hcost (by simp only [setS, PS.sizeL, PS.size]; omega)
  have hill : (tyP (withB p o rest [W, setS x])).2 ≠ 0 := by
    rw [hW]
    exact wrap_ill hWp hol hxm hk0
  obtain ⟨⟨m1, m2⟩, hT2⟩ : ∃ T, tyP (withB p o rest [W, setS x]) = T := ⟨_, rfl⟩
  rw [hT2] at hill
  have hill : m2 ≠ 0 := hill
  have htc2 := fun sh' hm => tyCheck_lent w0 hk sh' (.slice a1 p.stores.length c1) bq nq cq _ _ _ hT2 (h3c _) (hlc _) (fun sh2 hs hr => hq2 sh2 (hs _ hm) hr) w1 w2
  repeat (first | refine zck ?_ | refine zcl ?_ | refine zcm ?_ | refine zcn ?_)
  first | refine zcp (by kernel_rfl) ?_ | refine zcq PP_mixed (by kernel_rfl) (by kernel_rfl) ?_
  repeat' (refine zap rfl ?_; first | refine zaa 4 rfl rfl rfl ?_ | refine zan rfl ?_ | refine zan rfl ?_ | (refine zai [0] (htc2 _ (.head _)) rfl rfl rfl (fun _ h => h) ?_; rintro v Γ ⟨rfl, rfl⟩) | refine zan rfl ?_)
  all_goals refine zch ?_
  all_goals repeat (first | refine zck ?_ | refine zcl ?_ | refine zcm ?_ | refine zcn ?_)
  repeat (first | refine zck ?_ | refine zcl ?_ | refine zcm ?_ | refine zcn ?_)
  first | refine zcp (by kernel_rfl) ?_ | refine zcq PP_mixed (by kernel_rfl) (by kernel_rfl) ?_
  repeat' (refine zap rfl ?_; first | refine zan rfl ?_ | refine zbd rfl rfl (by omega) ?_)
  all_goals refine zch ?_
  all_goals repeat (first | refine zck ?_ | refine zcl ?_ | refine zcm ?_ | refine zcn ?_)
  refine zcj rfl ?_
  repeat' (first | refine zcp (by kernel_rfl) ?_ | refine zcm ?_ | refine zcn ?_ | (refine zap rfl ?_; first | refine zan rfl ?_ | refine zau rfl rfl (by omega) ?_) | refine zch ?_)
  exact cut_end ⟨rfl, (j + 1, _), ⟨rfl, rfl, rfl, rfl, int_eq (by dsimp only; omega), trivial⟩, ⟨rfl, by dsimp only; omega⟩, by dsimp only; omega⟩
end Go.Proofs.YtijbnjaackhlcaaGreatDoor

namespace Sim
open Go Go.Vc
def lessP (p : PP') (k : Nat) : PP' := ⟨p.stores, p.opers.take k ++ p.opers.drop (k + 1)⟩
def turnP (p : PP') (n : Nat) : PP' := ⟨p.stores, p.opers.drop n ++ p.opers.take n⟩
theorem less_sub (l : List PO) (k : Nat) : (l.take k ++ l.drop (k + 1)).Sublist l := by
  have h : (l.take k ++ l.drop (k + 1)).Sublist (l.take k ++ l.drop k) := (List.Sublist.refl _).append (by
    rw [← List.drop_drop, ]
    exact List.drop_sublist 1 _)
  rwa [List.take_append_drop] at h
theorem turn_perm (l : List PO) (n : Nat) : (l.drop n ++ l.take n).Perm l := by
  have h := List.perm_append_comm (l₁ := l.drop n) (l₂ := l.take n)
  rwa [List.take_append_drop] at h
theorem less_well {p : PP'} (h : WellP p) (k : Nat) : WellP (lessP p k) :=
  wellP_sub h (fun _ ho => (less_sub p.opers k).subset ho) (((less_sub p.opers k).map (·.name)).nodup (checkP_iff.1 h.check).2.2.2.2) (Nat.le_trans (less_sub p.opers k).length_le (checkP_iff.1 h.check).2.1)
theorem turn_well {p : PP'} (h : WellP p) (n : Nat) : WellP (turnP p n) :=
  wellP_sub h (fun o ho => (turn_perm p.opers n).mem_iff.1 ho) ((((turn_perm p.opers n).map (·.name)).nodup_iff).2 (checkP_iff.1 h.check).2.2.2.2) (by rw [(turn_perm p.opers n).length_eq]; exact (checkP_iff.1 h.check).2.1)
theorem less_V {p : PP'} (h : WellP p) {k : Nat} {o : PO} (ho : o ∈ (lessP p k).opers) : tyV (lessP p k) o.name = tyO p o := tyV_mem (less_well h k) ho
theorem turn_V {p : PP'} (h : WellP p) {k n : Nat} {o : PO} (ho : o ∈ (lessP p k).opers) : tyV (turnP p n) o.name = tyO p o :=
  tyV_mem (turn_well h n) ((turn_perm p.opers n).mem_iff.2 ((less_sub p.opers k).subset ho))
theorem same_V {p : PP'} (h : WellP p) {k : Nat} {o : PO} (ho : o ∈ (lessP p k).opers) : tyV p o.name = tyO p o := tyV_mem h ((less_sub p.opers k).subset ho)
theorem less_none {p : PP'} (h : WellP p) {k : Nat} {o : PO} (hk : p.opers[k]? = some o) : tyV (lessP p k) o.name = ([], 10) := by
  have hn := (checkP_iff.1 h.check).2.2.2.2
  have hlt := (List.getElem?_eq_some_iff.1 hk).1
  have e : p.opers = p.opers.take k ++ o :: p.opers.drop (k + 1) := by
    conv => lhs; rw [← List.take_append_drop k p.opers, List.drop_eq_getElem_cons hlt, (List.getElem?_eq_some_iff.1 hk).2]
  rw [e, List.map_append, List.map_cons, List.nodup_append] at hn
  obtain ⟨_, h2, h3⟩ := hn
  rw [List.nodup_cons] at h2
  have hm : o.name ∉ (lessP p k).opers.map (·.name) := by
    show o.name ∉ (p.opers.take k ++ p.opers.drop (k + 1)).map (·.name)
    rw [List.map_append, List.mem_append]
    rintro (q | q)
    · exact h3 _ q _ (.head _) rfl
    · exact h2.1 q
  unfold tyV
  rw [if_neg (fun q => q (wellP_iff.2 (less_well h k))), findP_none hm]
theorem tyO_nodup {p : PP'} (h : WellP p) {o : PO} (ho : o ∈ p.opers) : ((tyO p o).1.map (·.1)).Nodup := by
  obtain ⟨m, h1, h2⟩ := tySs_st (K := lookK p.stores) o.body (parV_st ((checkP_iff.1 h.check).2.2.2.1 o ho))
  unfold tyO
  rw [h1]
  exact h2.ndA
end Sim

