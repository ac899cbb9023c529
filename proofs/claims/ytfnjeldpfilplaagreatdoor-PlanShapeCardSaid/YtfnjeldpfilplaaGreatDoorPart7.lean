import Derived.Lib.ItoaNum
import Derived.Lib.Join
import Derived.Test.YtfnjeldpfilplaaGreatDoorKit
import Derived.Test.YtfnjeldpfilplaaGreatDoorPart5
import Derived.Test.YtfnjeldpfilplaaGreatDoorPart6
import Derived.Test.YtfnjeldpfilplaaGreatDoorPart3
/- Lemmas and walks for the claims of this seat (own work): Yp0 Yp1 Re0 Re1 Gr0 Rp0 Pp0 Eo0 Eo1 Nm0 Rn0 Yr0 Ty4 Ty5 Ty6 Ty7 Ty8 Pn0 Pt0. -/
namespace Sim
open Go Go.Vc
def lookV : TV → ByteArray → Option Int
  | [], _ => none
  | v :: l, s => if v.1 = s then some v.2 else lookV l s
def tvS (l : TV) : SM := l.map fun v => (v.1, .int .i64 v.2)
theorem lookV_S (s : ByteArray) : ∀ l : TV, lookS (tvS l) s = (lookV l s).map (.int .i64)
  | [] => rfl
  | v :: l => by
    show lookS ((v.1, .int .i64 v.2) :: tvS l) s = _
    rw [lookS, lookV]
    by_cases h : v.1 = s
    · rw [if_pos h, if_pos h]; rfl
    · rw [if_neg h, if_neg h]; exact lookV_S s l
theorem lookV_get (s : ByteArray) (l : TV) : (lookS (tvS l) s).getD (.int .i64 0) = .int .i64 ((lookV l s).getD 0) := by
  rw [lookV_S]; cases lookV l s <;> rfl
def envM (vs : TV) (ks : List (ByteArray × ByteArray)) : TEnv := ⟨fun s => (lookV vs s).getD 0, lookK ks⟩
def sgM : SM := [(bs [43], .agg #[.int .i64 1, .int .i64 1]), (bs [45], .agg #[.int .i64 1, .int .i64 1]), (bs [42], .agg #[.int .i64 1, .int .i64 1]), (bs [47], .agg #[.int .i64 1, .int .i64 1]), (bs [37], .agg #[.int .i64 1, .int .i64 1]),
  (bs [60], .agg #[.int .i64 1, .int .i64 2]), (bs [60, 61], .agg #[.int .i64 1, .int .i64 2]), (bs [62], .agg #[.int .i64 1, .int .i64 2]), (bs [62, 61], .agg #[.int .i64 1, .int .i64 2]),
  (bs [61, 61], .agg #[.int .i64 0, .int .i64 2]), (bs [33, 61], .agg #[.int .i64 0, .int .i64 2]), (bs [97, 110, 100], .agg #[.int .i64 2, .int .i64 2]), (bs [111, 114], .agg #[.int .i64 2, .int .i64 2])]
abbrev sgV (p : Int × Int) : Value := .agg #[.int .i64 p.1, .int .i64 p.2]
theorem sgM_look (s : ByteArray) : lookS sgM s = (signT s).map sgV := by
  unfold sgM signT inS
  simp only [lookS, List.any_cons, List.any_nil, Bool.or_false, Bool.or_eq_true, decide_eq_true_eq]
  by_cases h1 : bs [43] = s
  · subst h1; rfl
  by_cases h2 : bs [45] = s
  · subst h2; rfl
  by_cases h3 : bs [42] = s
  · subst h3; rfl
  by_cases h4 : bs [47] = s
  · subst h4; rfl
  by_cases h5 : bs [37] = s
  · subst h5; rfl
  by_cases h6 : bs [60] = s
  · subst h6; rfl
  by_cases h7 : bs [60, 61] = s
  · subst h7; rfl
  by_cases h8 : bs [62] = s
  · subst h8; rfl
  by_cases h9 : bs [62, 61] = s
  · subst h9; rfl
  by_cases h10 : bs [61, 61] = s
  · subst h10; rfl
  by_cases h11 : bs [33, 61] = s
  · subst h11; rfl
  by_cases h12 : bs [97, 110, 100] = s
  · subst h12; rfl
  by_cases h13 : bs [111, 114] = s
  · subst h13; rfl
  simp only [h1, h2, h3, h4, h5, h6, h7, h8, h9, h10, h11, h12, h13, if_false, or_self, Option.map_none]
theorem ofEs_drop {E : TEnv} {l : List PE} {j : Nat} {x : PE} (h : l[j]? = some x) : ofEs E (l.drop j) = if (ofE E x).2 ≠ 0 then ([], (ofE E x).2) else ((ofE E x).1 :: (ofEs E (l.drop (j + 1))).1, (ofEs E (l.drop (j + 1))).2) := by
  have hj := (List.getElem?_eq_some_iff.1 h).1
  rw [List.drop_eq_getElem_cons hj, (List.getElem?_eq_some_iff.1 h).2, ofEs]
theorem ofOr_drop {E : TEnv} {l : List PE} {j : Nat} {x : PE} (h : l[j]? = some x) : ofOr E (l.drop j) = if (ofE E x).2 ≠ 0 then (ofE E x).2 else if (ofE E x).1 ≠ 1 then 17 else ofOr E (l.drop (j + 1)) := by
  have hj := (List.getElem?_eq_some_iff.1 h).1
  rw [List.drop_eq_getElem_cons hj, (List.getElem?_eq_some_iff.1 h).2, ofOr]
def shV : List Value := [0, 0, 0, 0, 0, 0, 0, 0, 0, 1, 1, 0, 1, 1, 0, 2, 2, 0, 0, 4, 1, 0, 4, 0].map (Value.int .i64)
end Sim
namespace Go.Proofs.YtfnjeldpfilplaaGreatDoor
open Go.Vc Sim
theorem idxIn_spec (w0 : World) (sh : Shared) (v : Value) (l : List Int) (p : Int → Bool) (f : FuncId) (caps : Array Value) (hl : RdSl w0 sh encI 1 v l) (hb : l.length ≤ 1099511627776)
    (hf : ∀ x, FnE PP w0 sh f (.int .i64 x :: caps.toList) [] (.bool (p x)) []) :
    FnE PP w0 sh 271 [v, .func (.func f) #[] caps] [] (.int .i64 (idxP p l 0)) [] := by
  obtain ⟨a, cap, hv, _⟩ := id hl
  subst hv
  refine fn_of_run en271 fn271 rfl rfl rfl ?_
  repeat' (first | refine zck ?_ | refine zcp (by kernel_rfl) ?_ | refine zcl ?_ | (refine zap rfl ?_; first | refine zan rfl ?_ | refine zan rfl ?_ | refine zce rfl ?_) | refine zch ?_)
  refine run_loop (S := Nat) (fun j => [(0, .slice a l.length cap), (1, .func (.func f) #[] caps), (7, .int .i64 l.length), (8, .int .i64 j)])
    (fun j Γ => Γ = [] ∧ j ≤ l.length ∧ idxP p (l.drop j) j = idxP p l 0) (fun j => l.length - j) 0 ⟨rfl, rfl, rfl, rfl, trivial⟩ ⟨rfl, by omega, rfl⟩ ?_
  rintro j Γ junk ⟨rfl, g1, g2⟩
  by_cases hj : j < l.length
  · obtain ⟨x, hx⟩ : ∃ x, l[j]? = some x := ⟨_, List.getElem?_eq_getElem hj⟩
    obtain ⟨b, off, c, T, fr, rfl, e2, _, e3⟩ := hl.cells hx
    have hd : l.drop j = x :: l.drop (j + 1) := by
      rw [List.drop_eq_getElem_cons hj]
      congr 1
      exact (List.getElem?_eq_some_iff.1 hx).2
    have hc := hf x
    rw [hd, idxP] at g2
    by_cases hs : p x = true
    · rw [if_pos hs] at g2
      rw [hs] at hc
      repeat' (first | refine zck ?_ | refine zcp (by kernel_rfl) ?_ | refine zcm ?_ | refine zcl ?_ | (refine zap rfl ?_; first | refine zad rfl e2 (e3 0 _ rfl _ (by omega)) ?_ | refine zan rfl ?_ | refine zan rfl ?_ | refine zah [] hc rfl rfl rfl (fun _ h => h) rfl ?_ | refine zbg rfl rfl (by omega) ?_ | refine zas rfl rfl (by omega) ?_) | refine zch ?_ | refine zci rfl ?_)
      exact qret1 (fun _ _ h => h) rfl ⟨by rw [← g2]; rfl, rfl⟩
    · rw [if_neg hs] at g2
      rw [Bool.eq_false_iff.2 hs] at hc
      repeat' (first | refine zck ?_ | refine zcp (by kernel_rfl) ?_ | refine zcm ?_ | refine zcl ?_ | refine zcn ?_ | (refine zap rfl ?_; first | refine zad rfl e2 (e3 0 _ rfl _ (by omega)) ?_ | refine zan rfl ?_ | refine zan rfl ?_ | refine zah [] hc rfl rfl rfl (fun _ h => h) rfl ?_ | refine zbg rfl rfl (by omega) ?_ | refine zau rfl rfl (by omega) ?_ | refine zas rfl rfl (by omega) ?_) | refine zch ?_ | refine zci rfl ?_ | refine zcj rfl ?_)
      exact cut_end ⟨rfl, j + 1, ⟨rfl, rfl, rfl, int_eq (by omega), trivial⟩, ⟨rfl, by omega, by rw [← g2]; rfl⟩, by omega⟩
  · repeat' (first | refine zck ?_ | refine zcp (by kernel_rfl) ?_ | (refine zap rfl ?_; first | refine zbh rfl rfl (by omega) ?_) | refine zch ?_ | refine zcj rfl ?_)
    refine cut_exit rfl rfl ?_
    repeat' (first | refine zck ?_ | refine zcp (by kernel_rfl) ?_ | (refine zap rfl ?_; first | refine zan rfl ?_) | refine zch ?_)
    rw [List.drop_of_length_le (by omega)] at g2
    exact ret_tmp1 rfl ⟨by rw [← g2]; rfl, rfl⟩
theorem conIn_spec (w0 : World) (sh : Shared) (v : Value) (l : List Int) (p : Int → Bool) (f : FuncId) (caps : Array Value) (hl : RdSl w0 sh encI 1 v l) (hb : l.length ≤ 1099511627776)
    (hf : ∀ x, FnE PP w0 sh f (.int .i64 x :: caps.toList) [] (.bool (p x)) []) :
    FnE PP w0 sh 139 [v, .func (.func f) #[] caps] [] (.bool (l.any p)) [] := by
  refine fn_of_run en139 fn139 rfl rfl rfl ?_
  repeat' (first | refine zck ?_ | refine zcp (by kernel_rfl) ?_ | (refine zap rfl ?_; first | refine zan rfl ?_ | refine zan rfl ?_ | refine zah [] (idxIn_spec w0 sh v l p f caps hl hb hf) rfl rfl rfl (fun _ h => h) rfl ?_ | refine zbt rfl rfl ?_) | refine zch ?_)
  exact ret_tmp1 rfl ⟨bool_eq (idxP_any p l 0 (Int.le_refl _)), rfl⟩
theorem other1_spec (w0 : World) (sh : Shared) (xc : Nat) (t x : Int) : FnE PP w0 ((xc, .cells (List.toArray [.int .i64 t]) 3 (0, 0)) :: sh) 140 [.int .i64 x, .pointer (some ⟨xc, 0, none⟩)] [] (.bool (decide (x ≠ t))) [] := by
  refine fn_of_run en140 fn140 rfl rfl rfl ?_
  repeat' (first | refine zck ?_ | refine zcp (by kernel_rfl) ?_ | (refine zap rfl ?_; first | refine zan rfl ?_ | refine zan rfl ?_ | refine zaa 0 rfl rfl rfl ?_ | refine zbp rfl rfl ?_) | refine zch ?_)
  exact ret_tmp1 rfl ⟨rfl, rfl⟩
theorem other_spec (w0 : World) (sh : Shared) (v : Value) (ts : List Int) (t : Int) (hl : RdSl w0 sh encI 1 v ts) (hb : ts.length ≤ 1099511627776) :
    FnE PP w0 sh 134 [v, .int .i64 t] [] (.bool (anyNe ts t)) [] := by
  refine fn_of_run en134 fn134 rfl rfl rfl ?_
  repeat (first | refine zck ?_ | refine zcl ?_ | refine zcm ?_ | refine zcn ?_)
  first | refine zcp (by kernel_rfl) ?_ | refine zcq PP_mixed (by kernel_rfl) (by kernel_rfl) ?_
  repeat' (refine zap rfl ?_; first | refine zaq (cs := [_]) rfl (fun xc => ?_) | refine zan rfl ?_)
  all_goals refine zch ?_
  all_goals repeat (first | refine zck ?_ | refine zcl ?_ | refine zcm ?_ | refine zcn ?_)
  refine run_share [0] rfl ?_
  repeat' (first | refine zcp (by kernel_rfl) ?_ | (refine zap rfl ?_; first | refine zan rfl ?_ | refine zan rfl ?_ | refine zah [] (conIn_spec w0 _ v ts (fun x => decide (x ≠ t)) 140 #[.pointer (some ⟨xc, 0, none⟩)] (hl.mono fun p hp => List.mem_cons_of_mem _ hp) hb (fun x => other1_spec w0 sh xc t x)) rfl rfl rfl (fun _ h => h) rfl ?_ | refine zan rfl ?_) | refine zch ?_)
  exact ret_tmp1 rfl ⟨rfl, rfl⟩
theorem wrong_spec (w0 : World) (b : Bool) : FnE PP w0 [] 73 [.bool b] [] (.int .i64 (if b = true then 17 else 0)) [] := by
  cases b
  · refine fn_of_run en73 fn73 rfl rfl rfl ?_
    repeat' (first | refine zck ?_ | refine zcp (by kernel_rfl) ?_ | refine zcm ?_ | (refine zap rfl ?_; first | refine zan rfl ?_ | refine zan rfl ?_) | refine zch ?_ | refine zcj rfl ?_)
    exact ret_tmp1 rfl ⟨rfl, rfl⟩
  · refine fn_of_run en73 fn73 rfl rfl rfl ?_
    repeat' (first | refine zck ?_ | refine zcp (by kernel_rfl) ?_ | (refine zap rfl ?_; first | refine zan rfl ?_ | refine zan rfl ?_) | refine zch ?_ | refine zci rfl ?_)
    exact ret_tmp1 rfl ⟨rfl, rfl⟩
abbrev resT (r : Int × Int) : Value := .tuple #[.int .i64 r.1, .int .i64 r.2]
abbrev bxI (xc : Nat) (k : Int) : Nat × Obj := (xc, .cells (List.toArray [.int .i64 k]) 3 (0, 0))
abbrev tyrV (mv ms : Nat) : Value := .agg #[.map (some mv), .map (some ms)]
theorem always1_spec (w0 : World) (sh : Shared) (xc mv ms : Nat) (k : Int) (e : PE) (va vo v : Value) : FnE PP w0 (bxI xc k :: sh) 132 [tyrV mv ms, .agg (List.toArray (peC e.kind e.num e.name e.meth va vo)), v, .pointer (some ⟨xc, 0, none⟩)] [] (.tuple #[.int .i64 k, .int .i64 0]) [] := by
  refine fn_of_run en132 fn132 rfl rfl rfl ?_
  repeat' (first | refine zck ?_ | refine zcp (by kernel_rfl) ?_ | (refine zap rfl ?_; first | refine zan rfl ?_ | refine zaa 0 rfl rfl rfl ?_ | refine zaq (cs := [_, _]) rfl (fun nb => ?_) | refine zaq (cs := [_, _, _, _, _, _]) rfl (fun nb => ?_)) | refine zch ?_)
  refine run_take [] rfl ?_
  exact ret_tmp2 rfl ⟨rfl, rfl⟩
theorem always_spec (w0 : World) (k : Int) : Vc.Fn PP w0 [] 118 [.int .i64 k] [] (fun v Γ => ∃ xc, v = .func (.func 132) #[] #[.pointer (some ⟨xc, 0, none⟩)] ∧ Γ = [pt (bxI xc k).1 (bxI xc k).2]) := by
  refine fn_of_run en118 fn118 rfl rfl rfl ?_
  repeat' (first | refine zck ?_ | refine zcp (by kernel_rfl) ?_ | (refine zap rfl ?_; first | refine zan rfl ?_ | refine zaq (cs := [_]) rfl (fun nb => ?_) | refine zan rfl ?_) | refine zch ?_)
  exact ret_tmp1 rfl ⟨_, rfl, rfl⟩
theorem each_spec (w0 : World) (k : Int) : Vc.Fn PP w0 [] 120 [.int .i64 k] [] (fun v Γ => ∃ xc, v = .func (.func 133) #[] #[.pointer (some ⟨xc, 0, none⟩)] ∧ Γ = [pt (bxI xc k).1 (bxI xc k).2]) := by
  refine fn_of_run en120 fn120 rfl rfl rfl ?_
  repeat' (first | refine zck ?_ | refine zcp (by kernel_rfl) ?_ | (refine zap rfl ?_; first | refine zan rfl ?_ | refine zaq (cs := [_]) rfl (fun nb => ?_) | refine zan rfl ?_) | refine zch ?_)
  exact ret_tmp1 rfl ⟨_, rfl, rfl⟩
theorem each1_spec (w0 : World) (sh : Shared) (xc mv ms : Nat) (k : Int) (e : PE) (va vo v : Value) (ts : List Int) (hl : RdSl w0 sh encI 1 v ts) (hb : ts.length ≤ 1099511627776) : FnE PP w0 (bxI xc k :: sh) 133 [tyrV mv ms, .agg (List.toArray (peC e.kind e.num e.name e.meth va vo)), v, .pointer (some ⟨xc, 0, none⟩)] [] (.tuple #[.int .i64 (tEach ts k).1, .int .i64 (tEach ts k).2]) [] := by
  have ho := other_spec w0 sh v ts k hl hb
  unfold tEach
  cases hq : anyNe ts k with
  | true =>
    rw [hq] at ho
    rw [if_pos rfl]
    refine fn_of_run en133 fn133 rfl rfl rfl ?_
    repeat' (first | refine zck ?_ | refine zcp (by kernel_rfl) ?_ | (refine zap rfl ?_; first | refine zan rfl ?_ | refine zan rfl ?_ | refine zaa 0 rfl rfl rfl ?_ | refine zah [] ho rfl rfl rfl (fun p hp => List.mem_cons_of_mem _ hp) rfl ?_ | refine zaq (cs := [_, _]) rfl (fun nb => ?_) | refine zaq (cs := [_, _, _, _, _, _]) rfl (fun nb => ?_)) | refine zch ?_ | refine zci rfl ?_)
    refine run_take [] rfl ?_
    exact ret_tmp2 rfl ⟨rfl, rfl⟩
  | false =>
    rw [hq] at ho
    rw [if_neg (by decide)]
    refine fn_of_run en133 fn133 rfl rfl rfl ?_
    repeat' (first | refine zck ?_ | refine zcp (by kernel_rfl) ?_ | refine zcm ?_ | (refine zap rfl ?_; first | refine zan rfl ?_ | refine zan rfl ?_ | refine zaa 0 rfl rfl rfl ?_ | refine zah [] ho rfl rfl rfl (fun p hp => List.mem_cons_of_mem _ hp) rfl ?_ | refine zaq (cs := [_, _]) rfl (fun nb => ?_) | refine zaq (cs := [_, _, _, _, _, _]) rfl (fun nb => ?_)) | refine zch ?_ | refine zcj rfl ?_)
    refine run_take [] rfl ?_
    exact ret_tmp2 rfl ⟨rfl, rfl⟩
theorem var_spec (w0 : World) (sh : Shared) (mv ms : Nat) (vs : TV) (e : PE) (va vo v : Value) (hR : RdM w0 sh mv (tvS vs)) : FnE PP w0 sh 119 [tyrV mv ms, .agg (List.toArray (peC e.kind e.num e.name e.meth va vo)), v] []
    (if (lookV vs e.name).getD 0 = 1 ∨ (lookV vs e.name).getD 0 = 2 then .tuple #[.int .i64 ((lookV vs e.name).getD 0), .int .i64 0] else .tuple #[.int .i64 0, .int .i64 16]) [] := by
  have hv := lookV_get e.name vs
  obtain ⟨T, hT⟩ : ∃ T, (lookV vs e.name).getD 0 = T := ⟨_, rfl⟩
  rw [hT] at hv ⊢
  have hR' : ∀ sh', (∀ p ∈ sh, p ∈ sh') → RdM w0 sh' mv (tvS vs) := fun sh' h => hR.mono h
  by_cases h1 : T = 1
  · rw [if_pos (.inl h1)]
    refine fn_of_run en119 fn119 rfl rfl rfl ?_
    repeat (first | refine zck ?_ | refine zcl ?_ | refine zcm ?_ | refine zcn ?_)
    first | refine zcp (by kernel_rfl) ?_ | refine zcq PP_mixed (by kernel_rfl) (by kernel_rfl) ?_
    repeat' (refine zap rfl ?_; first | refine zan rfl ?_ | refine zaq (cs := [_, _]) rfl (fun nb => ?_) | refine zaq (cs := [_, _, _, _, _, _]) rfl (fun nb => ?_))
    all_goals refine zch ?_
    all_goals repeat (first | refine zck ?_ | refine zcl ?_ | refine zcm ?_ | refine zcn ?_)
    refine run_share [0] rfl ?_
    refine run_share [0] rfl ?_
    repeat (first | refine zck ?_ | refine zcl ?_ | refine zcm ?_ | refine zcn ?_)
    first | refine zcp (by kernel_rfl) ?_ | refine zcq PP_mixed (by kernel_rfl) (by kernel_rfl) ?_
    repeat' (refine zap rfl ?_; first | refine reg_lookupR (hR' _ (fun p hp => by simp [hp])) rfl rfl hv ?_ | refine zan rfl ?_ | refine zaa 0 rfl rfl rfl ?_ | refine zaa 1 rfl rfl rfl ?_ | refine zao rfl ?_)
    all_goals refine zch ?_
    all_goals repeat (first | refine zck ?_ | refine zcl ?_ | refine zcm ?_ | refine zcn ?_)
    repeat' (first | refine zck ?_ | refine zcp (by kernel_rfl) ?_ | (refine zap rfl ?_; first | refine zak rfl ?_ | refine zan rfl ?_ | refine zan rfl ?_ | refine zbc rfl rfl (by omega) ?_ | refine zbu rfl ?_) | refine zch ?_ | refine zci rfl ?_)
    exact ret_tmp2 rfl ⟨rfl, rfl⟩
  by_cases h2 : T = 2
  · rw [if_pos (.inr h2)]
    refine fn_of_run en119 fn119 rfl rfl rfl ?_
    repeat (first | refine zck ?_ | refine zcl ?_ | refine zcm ?_ | refine zcn ?_)
    first | refine zcp (by kernel_rfl) ?_ | refine zcq PP_mixed (by kernel_rfl) (by kernel_rfl) ?_
    repeat' (refine zap rfl ?_; first | refine zan rfl ?_ | refine zaq (cs := [_, _]) rfl (fun nb => ?_) | refine zaq (cs := [_, _, _, _, _, _]) rfl (fun nb => ?_))
    all_goals refine zch ?_
    all_goals repeat (first | refine zck ?_ | refine zcl ?_ | refine zcm ?_ | refine zcn ?_)
    refine run_share [0] rfl ?_
    refine run_share [0] rfl ?_
    repeat (first | refine zck ?_ | refine zcl ?_ | refine zcm ?_ | refine zcn ?_)
    first | refine zcp (by kernel_rfl) ?_ | refine zcq PP_mixed (by kernel_rfl) (by kernel_rfl) ?_
    repeat' (refine zap rfl ?_; first | refine reg_lookupR (hR' _ (fun p hp => by simp [hp])) rfl rfl hv ?_ | refine zan rfl ?_ | refine zaa 0 rfl rfl rfl ?_ | refine zaa 1 rfl rfl rfl ?_ | refine zao rfl ?_)
    all_goals refine zch ?_
    all_goals repeat (first | refine zck ?_ | refine zcl ?_ | refine zcm ?_ | refine zcn ?_)
    repeat' (first | refine zck ?_ | refine zcp (by kernel_rfl) ?_ | (refine zap rfl ?_; first | refine zaj rfl ?_ | refine zan rfl ?_ | refine zan rfl ?_ | refine zbc rfl rfl (by omega) ?_ | refine zbd rfl rfl (by omega) ?_ | refine zbv rfl ?_) | refine zch ?_ | refine zci rfl ?_)
    exact ret_tmp2 rfl ⟨rfl, rfl⟩
  · rw [if_neg (by omega)]
    refine fn_of_run en119 fn119 rfl rfl rfl ?_
    repeat (first | refine zck ?_ | refine zcl ?_ | refine zcm ?_ | refine zcn ?_)
    first | refine zcp (by kernel_rfl) ?_ | refine zcq PP_mixed (by kernel_rfl) (by kernel_rfl) ?_
    repeat' (refine zap rfl ?_; first | refine zan rfl ?_ | refine zaq (cs := [_, _]) rfl (fun nb => ?_) | refine zaq (cs := [_, _, _, _, _, _]) rfl (fun nb => ?_))
    all_goals refine zch ?_
    all_goals repeat (first | refine zck ?_ | refine zcl ?_ | refine zcm ?_ | refine zcn ?_)
    refine run_share [0] rfl ?_
    refine run_share [0] rfl ?_
    repeat (first | refine zck ?_ | refine zcl ?_ | refine zcm ?_ | refine zcn ?_)
    first | refine zcp (by kernel_rfl) ?_ | refine zcq PP_mixed (by kernel_rfl) (by kernel_rfl) ?_
    repeat' (refine zap rfl ?_; first | refine reg_lookupR (hR' _ (fun p hp => by simp [hp])) rfl rfl hv ?_ | refine zan rfl ?_ | refine zaa 0 rfl rfl rfl ?_ | refine zaa 1 rfl rfl rfl ?_ | refine zao rfl ?_)
    all_goals refine zch ?_
    all_goals repeat (first | refine zck ?_ | refine zcl ?_ | refine zcm ?_ | refine zcn ?_)
    repeat' (first | refine zck ?_ | refine zcp (by kernel_rfl) ?_ | refine zcm ?_ | (refine zap rfl ?_; first | refine zaj rfl ?_ | refine zan rfl ?_ | refine zan rfl ?_ | refine zbd rfl rfl (by omega) ?_ | refine zbv rfl ?_) | refine zch ?_ | refine zcj rfl ?_)
    exact ret_tmp2 rfl ⟨rfl, rfl⟩
theorem signs_spec (w0 : World) : Vc.Fn PP w0 [] 117 [] [] (fun v Γ => ∃ m, v = .map (some m) ∧ Γ = [MapS m sgM]) := by
  refine fn_of_run en117 fn117 rfl rfl rfl ?_
  repeat (first | refine zck ?_ | refine zcl ?_ | refine zcm ?_ | refine zcn ?_)
  first | refine zcp (by kernel_rfl) ?_ | refine zcq PP_mixed (by kernel_rfl) (by kernel_rfl) ?_
  repeat' (refine zap rfl ?_; first | refine zan rfl ?_)
  all_goals refine zch ?_
  all_goals repeat (first | refine zck ?_ | refine zcl ?_ | refine zcm ?_ | refine zcn ?_)
  repeat (first | refine zck ?_ | refine zcl ?_ | refine zcm ?_ | refine zcn ?_)
  first | refine zcp (by kernel_rfl) ?_ | refine zcq PP_mixed (by kernel_rfl) (by kernel_rfl) ?_
  repeat' (refine zap rfl ?_; first | refine zae 0 rfl rfl rfl rfl rfl rfl rfl ?_ | refine zae 1 rfl rfl rfl rfl rfl rfl rfl ?_ | refine zae 2 rfl rfl rfl rfl rfl rfl rfl ?_ | refine zae 3 rfl rfl rfl rfl rfl rfl rfl ?_ | refine zar (fun nb => ?_) | refine zcb rfl ?_)
  all_goals refine zch ?_
  all_goals repeat (first | refine zck ?_ | refine zcl ?_ | refine zcm ?_ | refine zcn ?_)
  refine run_share [0] rfl ?_
  refine run_share [0] rfl ?_
  refine run_share [0] rfl ?_
  refine run_share [0] rfl ?_
  repeat (first | refine zck ?_ | refine zcl ?_ | refine zcm ?_ | refine zcn ?_)
  first | refine zcp (by kernel_rfl) ?_ | refine zcq PP_mixed (by kernel_rfl) (by kernel_rfl) ?_
  repeat' (refine zap rfl ?_; first | refine zcc (fun m => ?_) | (refine reg_close (A := MapS m []) [0] rfl rfl (fun g hg => mapS_make m g (Stars.one.1 hg)) ?_; refine reg_insertS 0 rfl rfl rfl rfl rfl ?_) | refine reg_insertS 0 rfl rfl rfl rfl rfl ?_ | refine zan rfl ?_ | refine zan rfl ?_ | refine zaa 0 rfl rfl rfl ?_ | refine zaa 1 rfl rfl rfl ?_ | refine zaa 2 rfl rfl rfl ?_ | refine zaa 3 rfl rfl rfl ?_)
  all_goals refine zch ?_
  all_goals repeat (first | refine zck ?_ | refine zcl ?_ | refine zcm ?_ | refine zcn ?_)
  refine run_close (A := MapS m sgM) [0] rfl (fun g hg => by
    have h2 := Stars.one.1 hg
    refine Eq.mp (congrArg (fun z => MapS m z g) ?_) h2
    kernel_rfl) ?_
  exact ret_tmp1 rfl ⟨m, rfl, rfl⟩
end Go.Proofs.YtfnjeldpfilplaaGreatDoor

namespace Go.Proofs.YtfnjeldpfilplaaGreatDoor
open Go.Vc Sim
set_option maxHeartbeats 4000000 in
theorem binary_spec (w0 : World) (sh : Shared) (mv ms : Nat) (e : PE) (va vo v : Value) (ts : List Int) (a b : Int) (hl : RdSl w0 sh encI 1 v ts) (hn : ts.length = 2) (hs : signT e.meth = some (a, b)) :
    FnE PP w0 sh 121 [tyrV mv ms, .agg (List.toArray (peC e.kind e.num e.name e.meth va vo)), v] []
      (if (a = 0 ∧ ts.getD 0 0 = ts.getD 1 0) ∨ (a ≠ 0 ∧ anyNe ts a = false) then .tuple #[.int .i64 b, .int .i64 0] else .tuple #[.int .i64 0, .int .i64 17]) [] := by
  have ho := other_spec w0 sh v ts a hl (by omega)
  have hlk := sgM_look e.meth
  rw [hs] at hlk
  match ts, hn with
  | [x, y], _ =>
  obtain ⟨av, cv, hv, _⟩ := id hl
  subst hv
  obtain ⟨b1, off, c, T, fr, hav, e2, _, e3⟩ := hl.cells (i := 0) (x := x) rfl
  obtain ⟨b2, off2, c2, T2, fr2, hav2, e4, _, e5⟩ := hl.cells (i := 1) (x := y) rfl
  subst hav
  cases hav2
  have r0 := e3 0 _ rfl
  have r1 := e5 0 _ rfl
  refine fn_of_run en121 fn121 rfl rfl rfl ?_
  repeat (first | refine zck ?_ | refine zcl ?_ | refine zcm ?_ | refine zcn ?_)
  first | refine zcp (by kernel_rfl) ?_ | refine zcq PP_mixed (by kernel_rfl) (by kernel_rfl) ?_
  repeat' (refine zap rfl ?_; first | refine zan rfl ?_ | refine zaq (cs := [_, _]) rfl (fun nb => ?_) | refine zaq (cs := [_, _, _, _, _, _]) rfl (fun nb => ?_))
  all_goals refine zch ?_
  all_goals repeat (first | refine zck ?_ | refine zcl ?_ | refine zcm ?_ | refine zcn ?_)
  refine run_share [0] rfl ?_
  refine run_share [0] rfl ?_
  repeat (first | refine zck ?_ | refine zcl ?_ | refine zcm ?_ | refine zcn ?_)
  first | refine zcp (by kernel_rfl) ?_ | refine zcr [(.loud, 0), (.quiet, 1), (.quiet, 2), (.loud, 3), (.loud, 4), (.loud, 5)] PP_mixed (by kernel_rfl) (by kernel_rfl) ?_ | refine run_drawR PP_mixed (by kernel_rfl) (by kernel_rfl) ?_
  repeat' (refine zap rfl ?_; first | refine reg_lookupS 0 (v := sgV (a, b)) rfl rfl rfl (by rw [hlk]; rfl) ?_ | refine zaa 0 rfl rfl rfl ?_ | (refine zai [] (signs_spec w0) rfl rfl rfl sub_nil ?_; rintro v Γ ⟨m, rfl, rfl⟩) | refine zao rfl ?_ | refine zae 1 rfl rfl rfl rfl rfl rfl rfl ?_ | refine zar (fun nb => ?_))
  all_goals refine zch ?_
  all_goals repeat (first | refine zck ?_ | refine zcl ?_ | refine zcm ?_ | refine zcn ?_)
  refine run_share [1] rfl ?_
  refine run_take [] rfl ?_
  by_cases ha : a = 0
  · subst ha
    by_cases hxy : x = y
    · subst hxy
      rw [if_pos (.inl ⟨rfl, rfl⟩)]
      repeat (first | refine zck ?_ | refine zcl ?_ | refine zcm ?_ | refine zcn ?_)
      first | refine zcp (by kernel_rfl) ?_ | refine zcq PP_mixed (by kernel_rfl) (by kernel_rfl) ?_
      repeat' (refine zap rfl ?_; first | refine zad rfl (fun hF Γ w h1 h2 => e2 hF Γ w (fun p hp => h1 p (by simp [hp])) h2) (r0 _ (by omega)) ?_ | refine zad rfl (fun hF Γ w h1 h2 => e4 hF Γ w (fun p hp => h1 p (by simp [hp])) h2) (r1 _ (by omega)) ?_ | refine zaj rfl ?_ | refine zak rfl ?_ | refine zal rfl ?_ | refine zan rfl ?_ | refine zaa 0 rfl rfl rfl ?_ | refine zao rfl ?_ | refine zbc rfl rfl (by omega) ?_ | refine zbu rfl ?_ | refine zas rfl rfl (by omega) ?_)
      all_goals refine zch ?_
      all_goals repeat (first | refine zck ?_ | refine zcl ?_ | refine zcm ?_ | refine zcn ?_)
      refine zci rfl ?_
      repeat' (first | refine zck ?_ | refine zcp (by kernel_rfl) ?_ | (refine zap rfl ?_; first | refine zan rfl ?_ | refine zaa 0 rfl rfl rfl ?_ | refine zao rfl ?_) | refine zch ?_)
      exact ret_tmp2 rfl ⟨rfl, rfl⟩
    · rw [if_neg (by rintro (h | h); exact hxy h.2; exact h.1 rfl)]
      repeat (first | refine zck ?_ | refine zcl ?_ | refine zcm ?_ | refine zcn ?_)
      first | refine zcp (by kernel_rfl) ?_ | refine zcq PP_mixed (by kernel_rfl) (by kernel_rfl) ?_
      repeat' (refine zap rfl ?_; first | refine zad rfl (fun hF Γ w h1 h2 => e2 hF Γ w (fun p hp => h1 p (by simp [hp])) h2) (r0 _ (by omega)) ?_ | refine zad rfl (fun hF Γ w h1 h2 => e4 hF Γ w (fun p hp => h1 p (by simp [hp])) h2) (r1 _ (by omega)) ?_ | refine zaj rfl ?_ | refine zak rfl ?_ | refine zan rfl ?_ | refine zaa 0 rfl rfl rfl ?_ | refine zao rfl ?_ | refine zbc rfl rfl (by omega) ?_ | refine zbd rfl rfl (by omega) ?_ | refine zbf rfl rfl (by omega) ?_ | refine zbu rfl ?_ | refine zbv rfl ?_ | refine zas rfl rfl (by omega) ?_)
      all_goals refine zch ?_
      all_goals repeat (first | refine zck ?_ | refine zcl ?_ | refine zcm ?_ | refine zcn ?_)
      refine zcj rfl ?_
      repeat' (first | refine zck ?_ | refine zcp (by kernel_rfl) ?_ | refine zcm ?_ | (refine zap rfl ?_; first | refine zan rfl ?_) | refine zch ?_)
      exact ret_tmp2 rfl ⟨rfl, rfl⟩
  · cases hq : anyNe [x, y] a with
    | true =>
      rw [hq] at ho
      rw [if_neg (by rintro (h | h); exact ha h.1; exact absurd h.2 (by decide))]
      repeat (first | refine zck ?_ | refine zcl ?_ | refine zcm ?_ | refine zcn ?_)
      first | refine zcp (by kernel_rfl) ?_ | refine zcq PP_mixed (by kernel_rfl) (by kernel_rfl) ?_
      repeat' (refine zap rfl ?_; first | refine zaj rfl ?_ | refine zak rfl ?_ | refine zan rfl ?_ | refine zaa 0 rfl rfl rfl ?_ | refine zah [] ho rfl rfl rfl (fun p hp => by simp [hp]) rfl ?_ | refine zao rfl ?_ | refine zbd rfl rfl (by omega) ?_ | refine zbe rfl rfl (by omega) ?_ | refine zbx rfl ?_ | refine zbu rfl ?_ | refine zbv rfl ?_)
      all_goals refine zch ?_
      all_goals repeat (first | refine zck ?_ | refine zcl ?_ | refine zcm ?_ | refine zcn ?_)
      refine zcj rfl ?_
      repeat' (first | refine zck ?_ | refine zcp (by kernel_rfl) ?_ | refine zcm ?_ | (refine zap rfl ?_; first | refine zan rfl ?_) | refine zch ?_)
      exact ret_tmp2 rfl ⟨rfl, rfl⟩
    | false =>
      rw [hq] at ho
      rw [if_pos (.inr ⟨ha, rfl⟩)]
      repeat (first | refine zck ?_ | refine zcl ?_ | refine zcm ?_ | refine zcn ?_)
      first | refine zcp (by kernel_rfl) ?_ | refine zcq PP_mixed (by kernel_rfl) (by kernel_rfl) ?_
      repeat' (refine zap rfl ?_; first | refine zaj rfl ?_ | refine zak rfl ?_ | refine zan rfl ?_ | refine zaa 0 rfl rfl rfl ?_ | refine zah [] ho rfl rfl rfl (fun p hp => by simp [hp]) rfl ?_ | refine zao rfl ?_ | refine zbd rfl rfl (by omega) ?_ | refine zbe rfl rfl (by omega) ?_ | refine zbx rfl ?_ | refine zbu rfl ?_ | refine zbv rfl ?_)
      all_goals refine zch ?_
      all_goals repeat (first | refine zck ?_ | refine zcl ?_ | refine zcm ?_ | refine zcn ?_)
      refine zci rfl ?_
      repeat' (first | refine zck ?_ | refine zcp (by kernel_rfl) ?_ | (refine zap rfl ?_; first | refine zan rfl ?_ | refine zaa 0 rfl rfl rfl ?_ | refine zao rfl ?_) | refine zch ?_)
      exact ret_tmp2 rfl ⟨rfl, rfl⟩
theorem shapes_spec (w0 : World) : FnE PP w0 [] 116 [] [] (.agg (List.toArray shV)) [] := by
  refine fn_of_run en116 fn116 rfl rfl rfl ?_
  repeat (first | refine zck ?_ | refine zcl ?_ | refine zcm ?_ | refine zcn ?_)
  first | refine zcp (by kernel_rfl) ?_ | refine zcq PP_mixed (by kernel_rfl) (by kernel_rfl) ?_
  repeat' (refine zap rfl ?_; first | refine zar (fun nb => ?_))
  all_goals refine zch ?_
  all_goals repeat (first | refine zck ?_ | refine zcl ?_ | refine zcm ?_ | refine zcn ?_)
  repeat (first | refine zck ?_ | refine zcl ?_ | refine zcm ?_ | refine zcn ?_)
  first | refine zcp (by kernel_rfl) ?_ | refine zcq PP_mixed (by kernel_rfl) (by kernel_rfl) ?_
  repeat' (refine zap rfl ?_; first | refine zae 0 rfl rfl rfl rfl rfl rfl rfl ?_ | refine zcb rfl ?_ | refine reg_buildA rfl ?_)
  all_goals refine zch ?_
  all_goals repeat (first | refine zck ?_ | refine zcl ?_ | refine zcm ?_ | refine zcn ?_)
  exact run_ret (leaves_nil (ends_take [] rfl (ends_one rfl (resOk_pt 0 rfl rfl rfl) ⟨rfl, rfl, rfl⟩)))
set_option maxHeartbeats 4000000 in
theorem form_core (w0 : World) (e : PE) (va vo : Value) (a m o : Nat) (k : Int) (sh : Shared) (ha : RdEl w0 sh va e.args) (ho : RdEl w0 sh vo e.or) (hk : e.kind = k) (hk0 : 0 ≤ k ∧ k ≤ 7)
    (hidx : ∀ q, q = k.toNat * 3 → rd true 3 shV q = some (.agg (List.toArray [.int .i64 a, .int .i64 m, .int .i64 o]))) (hs : ∃ S, lookS sgM e.meth = S ∧ (k = 5 → ∃ p, S = some (sgV p))) :
    FnE PP w0 sh 100 [.agg (List.toArray (peC e.kind e.num e.name e.meth va vo))] [] (.bool (decide (a ≤ e.args.length) && (decide (e.args.length ≤ m) && decide (e.or.length ≤ o)))) [] := by
  obtain ⟨S, hS, hS5⟩ := hs
  obtain ⟨a1, c1, hva, _⟩ := ha.len
  obtain ⟨a2, c2, hvo, _⟩ := ho.len
  subst hva; subst hvo
  rw [hk]
  refine fn_of_run en100 fn100 rfl rfl rfl ?_
  repeat (first | refine zck ?_ | refine zcl ?_ | refine zcm ?_ | refine zcn ?_)
  first | refine zcp (by kernel_rfl) ?_ | refine zcq PP_mixed (by kernel_rfl) (by kernel_rfl) ?_
  repeat' (refine zap rfl ?_; first | refine zaq (cs := [_, _, _, _, _, _]) rfl (fun t1 => ?_) | refine zan rfl ?_)
  all_goals refine zch ?_
  all_goals repeat (first | refine zck ?_ | refine zcl ?_ | refine zcm ?_ | refine zcn ?_)
  refine run_share [0] rfl ?_
  repeat (first | refine zck ?_ | refine zcl ?_ | refine zcm ?_ | refine zcn ?_)
  first | refine zcp (by kernel_rfl) ?_ | refine zcq PP_mixed (by kernel_rfl) (by kernel_rfl) ?_
  repeat' (refine zap rfl ?_; first | refine zar (fun t3 => ?_) | refine reg_indexA (cs := shV) (sz := 3) rfl rfl ⟨hk0.1, by omega⟩ (hidx _ rfl) ?_ | refine zaa 0 rfl rfl rfl ?_ | refine zah [] (shapes_spec w0) rfl rfl rfl sub_nil rfl ?_ | refine zao rfl ?_ | refine zae 0 rfl rfl rfl rfl rfl rfl rfl ?_)
  all_goals refine zch ?_
  all_goals repeat (first | refine zck ?_ | refine zcl ?_ | refine zcm ?_ | refine zcn ?_)
  refine run_share [0] rfl ?_
  repeat (first | refine zck ?_ | refine zcl ?_ | refine zcm ?_ | refine zcn ?_)
  first | refine zcp (by kernel_rfl) ?_ | refine zcq PP_mixed (by kernel_rfl) (by kernel_rfl) ?_
  repeat' (refine zap rfl ?_; first | refine zbo rfl rfl ?_ | refine zaa 1 rfl rfl rfl ?_ | refine zao rfl ?_)
  all_goals refine zch ?_
  all_goals repeat (refine zck ?_)
  refine run_bind_eq (l' := [(1, .pointer (some ⟨t1, 0, none⟩)), (3, .pointer (some ⟨t3, 0, none⟩))]) (Γ' := []) ?_ ?_
  · by_cases h5 : k = 5
    · obtain ⟨p, hp⟩ := hS5 h5
      subst hp
      refine run_condV rfl (fun _ => ?_) (fun h => absurd h5 (of_decide_eq_false h))
      repeat (first | refine zck ?_ | refine zcl ?_ | refine zcm ?_ | refine zcn ?_)
      first | refine zcp (by kernel_rfl) ?_ | refine zcr [(.loud, 0), (.quiet, 1), (.quiet, 2), (.loud, 3), (.quiet, 4), (.quiet, 5), (.quiet, 6), (.loud, 7), (.loud, 8), (.quiet, 9)] PP_mixed (by kernel_rfl) (by kernel_rfl) ?_ | refine run_drawR PP_mixed (by kernel_rfl) (by kernel_rfl) ?_
      repeat' (refine zap rfl ?_; first | refine zar (fun t4 => ?_) | refine reg_lookupS 0 (v := .tuple #[sgV p, .bool true]) rfl rfl rfl (by rw [hS]; rfl) ?_ | refine zan rfl ?_ | refine zan rfl ?_ | refine zaa 1 rfl rfl rfl ?_ | (refine zai [] (signs_spec w0) rfl rfl rfl sub_nil ?_; rintro v Γ ⟨m, rfl, rfl⟩) | refine zao rfl ?_ | refine zan rfl ?_ | refine zae 1 rfl rfl rfl rfl rfl rfl rfl ?_)
      all_goals refine zch ?_
      all_goals repeat (first | refine zck ?_ | refine zcl ?_ | refine zcm ?_ | refine zcn ?_)
      repeat (first | refine zck ?_ | refine zcl ?_ | refine zcm ?_ | refine zcn ?_)
      first | refine zcp (by kernel_rfl) ?_ | refine zcq PP_mixed (by kernel_rfl) (by kernel_rfl) ?_
      repeat' (refine zap rfl ?_; first | refine zan rfl ?_ | refine zbx rfl ?_)
      all_goals refine zch ?_
      all_goals repeat (first | refine zck ?_ | refine zcl ?_ | refine zcm ?_ | refine zcn ?_)
      refine zcj rfl ?_
      repeat (first | refine zck ?_ | refine zcl ?_ | refine zcm ?_ | refine zcn ?_ | refine zco ?_)
      refine run_take [] rfl ?_
      exact cut_end ⟨rfl, ⟨rfl, rfl, trivial⟩, rfl⟩
    · refine run_condV rfl (fun h => absurd (of_decide_eq_true h) h5) (fun _ => ?_)
      repeat (first | refine zck ?_ | refine zcl ?_ | refine zcm ?_ | refine zcn ?_ | refine zco ?_)
      exact cut_end ⟨rfl, ⟨rfl, rfl, trivial⟩, rfl⟩
  intro junk
  by_cases h0 : a ≤ e.args.length
  rotate_left
  · repeat (first | refine zck ?_ | refine zcl ?_ | refine zcm ?_ | refine zcn ?_)
    first | refine zcp (by kernel_rfl) ?_ | refine zcq PP_mixed (by kernel_rfl) (by kernel_rfl) ?_
    repeat' (refine zap rfl ?_; first | refine zak rfl ?_ | refine zan rfl ?_ | refine zan rfl ?_ | refine zaa 0 rfl rfl rfl ?_ | refine zaa 1 rfl rfl rfl ?_ | refine zce rfl ?_ | refine zao rfl ?_ | refine zbn rfl rfl (by omega) ?_ | refine zbv rfl ?_)
    all_goals refine zch ?_
    all_goals repeat (first | refine zck ?_ | refine zcl ?_ | refine zcm ?_ | refine zcn ?_)
    exact ret_tmp1 rfl ⟨bool_eq (by simp [h0]), rfl⟩
  by_cases h1 : e.args.length ≤ m
  rotate_left
  · repeat (first | refine zck ?_ | refine zcl ?_ | refine zcm ?_ | refine zcn ?_)
    first | refine zcp (by kernel_rfl) ?_ | refine zcq PP_mixed (by kernel_rfl) (by kernel_rfl) ?_
    repeat' (refine zap rfl ?_; first | refine zaj rfl ?_ | refine zak rfl ?_ | refine zan rfl ?_ | refine zan rfl ?_ | refine zaa 0 rfl rfl rfl ?_ | refine zaa 1 rfl rfl rfl ?_ | refine zce rfl ?_ | refine zao rfl ?_ | refine zbj rfl rfl (by omega) ?_ | refine zbm rfl rfl (by omega) ?_ | refine zbu rfl ?_ | refine zbv rfl ?_)
    all_goals refine zch ?_
    all_goals repeat (first | refine zck ?_ | refine zcl ?_ | refine zcm ?_ | refine zcn ?_)
    exact ret_tmp1 rfl ⟨bool_eq (by simp [h1]), rfl⟩
  by_cases h2 : e.or.length ≤ o
  · repeat (first | refine zck ?_ | refine zcl ?_ | refine zcm ?_ | refine zcn ?_)
    first | refine zcp (by kernel_rfl) ?_ | refine zcq PP_mixed (by kernel_rfl) (by kernel_rfl) ?_
    repeat' (refine zap rfl ?_; first | refine zaj rfl ?_ | refine zan rfl ?_ | refine zan rfl ?_ | refine zaa 0 rfl rfl rfl ?_ | refine zaa 1 rfl rfl rfl ?_ | refine zce rfl ?_ | refine zao rfl ?_ | refine zbi rfl rfl (by omega) ?_ | refine zbm rfl rfl (by omega) ?_ | refine zbu rfl ?_)
    all_goals refine zch ?_
    all_goals repeat (first | refine zck ?_ | refine zcl ?_ | refine zcm ?_ | refine zcn ?_)
    exact ret_tmp1 rfl ⟨bool_eq (by simp [h0, h1, h2]), rfl⟩
  · repeat (first | refine zck ?_ | refine zcl ?_ | refine zcm ?_ | refine zcn ?_)
    first | refine zcp (by kernel_rfl) ?_ | refine zcq PP_mixed (by kernel_rfl) (by kernel_rfl) ?_
    repeat' (refine zap rfl ?_; first | refine zaj rfl ?_ | refine zan rfl ?_ | refine zan rfl ?_ | refine zaa 0 rfl rfl rfl ?_ | refine zaa 1 rfl rfl rfl ?_ | refine zce rfl ?_ | refine zao rfl ?_ | refine zbi rfl rfl (by omega) ?_ | refine zbj rfl rfl (by omega) ?_ | refine zbm rfl rfl (by omega) ?_ | refine zbu rfl ?_)
    all_goals refine zch ?_
    all_goals repeat (first | refine zck ?_ | refine zcl ?_ | refine zcm ?_ | refine zcn ?_)
    exact ret_tmp1 rfl ⟨bool_eq (by simp [h2]), rfl⟩
set_option maxHeartbeats 4000000 in
theorem form_none (w0 : World) (e : PE) (va vo : Value) (sh : Shared) (_ : RdEl w0 sh va e.args) (_ : RdEl w0 sh vo e.or) (hk : e.kind = 5) (hs : signT e.meth = none) :
    FnE PP w0 sh 100 [.agg (List.toArray (peC e.kind e.num e.name e.meth va vo))] [] (.bool false) [] := by
  have hS := sgM_look e.meth
  rw [hs] at hS
  rw [hk]
  refine fn_of_run en100 fn100 rfl rfl rfl ?_
  repeat (first | refine zck ?_ | refine zcl ?_ | refine zcm ?_ | refine zcn ?_)
  first | refine zcp (by kernel_rfl) ?_ | refine zcq PP_mixed (by kernel_rfl) (by kernel_rfl) ?_
  repeat' (refine zap rfl ?_; first | refine zaq (cs := [_, _, _, _, _, _]) rfl (fun t1 => ?_) | refine zan rfl ?_)
  all_goals refine zch ?_
  all_goals repeat (first | refine zck ?_ | refine zcl ?_ | refine zcm ?_ | refine zcn ?_)
  refine run_share [0] rfl ?_
  repeat (first | refine zck ?_ | refine zcl ?_ | refine zcm ?_ | refine zcn ?_)
  first | refine zcp (by kernel_rfl) ?_ | refine zcq PP_mixed (by kernel_rfl) (by kernel_rfl) ?_
  repeat' (refine zap rfl ?_; first | refine zar (fun t3 => ?_) | refine reg_indexA (cs := shV) (sz := 3) rfl rfl (by decide) rfl ?_ | refine zaa 0 rfl rfl rfl ?_ | refine zah [] (shapes_spec w0) rfl rfl rfl sub_nil rfl ?_ | refine zao rfl ?_ | refine zae 0 rfl rfl rfl rfl rfl rfl rfl ?_)
  all_goals refine zch ?_
  all_goals repeat (first | refine zck ?_ | refine zcl ?_ | refine zcm ?_ | refine zcn ?_)
  refine run_share [0] rfl ?_
  repeat (first | refine zck ?_ | refine zcl ?_ | refine zcm ?_ | refine zcn ?_)
  first | refine zcp (by kernel_rfl) ?_ | refine zcq PP_mixed (by kernel_rfl) (by kernel_rfl) ?_
  repeat' (refine zap rfl ?_; first | refine zaa 1 rfl rfl rfl ?_ | refine zao rfl ?_ | refine zbc rfl rfl (by omega) ?_)
  all_goals refine zch ?_
  all_goals repeat (first | refine zck ?_ | refine zcl ?_ | refine zcm ?_ | refine zcn ?_)
  refine zci rfl ?_
  repeat (first | refine zck ?_ | refine zcl ?_ | refine zcm ?_ | refine zcn ?_)
  first | refine zcp (by kernel_rfl) ?_ | refine zcr [(.loud, 0), (.quiet, 1), (.quiet, 2), (.loud, 3), (.quiet, 4), (.quiet, 5), (.quiet, 6), (.loud, 7), (.loud, 8), (.quiet, 9)] PP_mixed (by kernel_rfl) (by kernel_rfl) ?_ | refine run_drawR PP_mixed (by kernel_rfl) (by kernel_rfl) ?_
  repeat' (refine zap rfl ?_; first | refine zar (fun t4 => ?_) | refine reg_lookupS 0 (v := .tuple #[sgV (0, 0), .bool false]) rfl rfl rfl (by rw [hS]; rfl) ?_ | refine zan rfl ?_ | refine zan rfl ?_ | refine zaa 1 rfl rfl rfl ?_ | (refine zai [] (signs_spec w0) rfl rfl rfl sub_nil ?_; rintro v Γ ⟨m, rfl, rfl⟩) | refine zao rfl ?_ | refine zan rfl ?_ | refine zae 1 rfl rfl rfl rfl rfl rfl rfl ?_)
  all_goals refine zch ?_
  all_goals repeat (first | refine zck ?_ | refine zcl ?_ | refine zcm ?_ | refine zcn ?_)
  repeat (first | refine zck ?_ | refine zcl ?_ | refine zcm ?_ | refine zcn ?_)
  first | refine zcp (by kernel_rfl) ?_ | refine zcq PP_mixed (by kernel_rfl) (by kernel_rfl) ?_
  repeat' (refine zap rfl ?_; first | refine zan rfl ?_ | refine zbx rfl ?_)
  all_goals refine zch ?_
  all_goals repeat (first | refine zck ?_ | refine zcl ?_ | refine zcm ?_ | refine zcn ?_)
  refine zci rfl ?_
  repeat (first | refine zck ?_ | refine zcl ?_ | refine zcm ?_ | refine zcn ?_)
  first | refine zcp (by kernel_rfl) ?_ | refine zcq PP_mixed (by kernel_rfl) (by kernel_rfl) ?_
  repeat' (refine zap rfl ?_; first | refine zan rfl ?_)
  all_goals refine zch ?_
  all_goals repeat (first | refine zck ?_ | refine zcl ?_ | refine zcm ?_ | refine zcn ?_)
  refine run_take [] rfl ?_
  exact ret_tmp1 rfl ⟨rfl, rfl⟩
theorem formTy_spec (w0 : World) (e : PE) (va vo : Value) (sh : Shared) (ha : RdEl w0 sh va e.args) (ho : RdEl w0 sh vo e.or) (hk : 0 ≤ e.kind ∧ e.kind ≤ 7) :
    FnE PP w0 sh 100 [.agg (List.toArray (peC e.kind e.num e.name e.meth va vo))] [] (.bool (formT e)) [] := by
  by_cases h5 : e.kind = 5 ∧ signT e.meth = none
  · have hf : formT e = false := by unfold formT; rw [if_pos h5]
    rw [hf]
    exact form_none w0 e va vo sh ha ho h5.1 h5.2
  have hs5 : ∀ k : Int, e.kind = k → ∃ S, lookS sgM e.meth = S ∧ (k = 5 → ∃ p, S = some (sgV p)) := fun k hk' => ⟨_, rfl, fun h => by
    cases hq : signT e.meth with
    | none => exact absurd ⟨hk'.trans h, hq⟩ h5
    | some p => exact ⟨p, by rw [sgM_look, hq]; rfl⟩⟩
  have go : ∀ (a m o : Nat) (k : Int), e.kind = k → 0 ≤ k ∧ k ≤ 7 → (∀ q, q = k.toNat * 3 → rd true 3 shV q = some (.agg (List.toArray [.int .i64 a, .int .i64 m, .int .i64 o]))) → (decide (a ≤ e.args.length) && (decide (e.args.length ≤ m) && decide (e.or.length ≤ o))) = formT e →
      FnE PP w0 sh 100 [.agg (List.toArray (peC e.kind e.num e.name e.meth va vo))] [] (.bool (formT e)) [] := fun a m o k hk' hk0 hidx hq => by
    have := form_core w0 e va vo a m o k sh ha ho hk' hk0 hidx (hs5 k hk')
    rw [hq] at this
    exact this
  have hB : ∀ B1 B2 : Bool, (B1 = true ↔ B2 = true) → B1 = B2 := fun B1 B2 h => Bool.eq_iff_iff.2 h
  have hfT : formT e = if e.kind ≤ 2 then decide (e.args.length = 0) && decide (e.or.length = 0)
    else if e.kind ≤ 4 then decide (e.args.length = 1) && decide (e.or.length = 0)
    else if e.kind = 5 then decide (e.args.length = 2) && decide (e.or.length = 0)
    else if e.kind = 6 then decide (e.args.length ≤ 4) && decide (e.or.length ≤ 1)
    else decide (e.args.length ≤ 4) && decide (e.or.length = 0) := by unfold formT; rw [if_neg h5]
  rcases (by omega : e.kind = 0 ∨ e.kind = 1 ∨ e.kind = 2 ∨ e.kind = 3 ∨ e.kind = 4 ∨ e.kind = 5 ∨ e.kind = 6 ∨ e.kind = 7) with h | h | h | h | h | h | h | h
  · exact go 0 0 0 0 h (by decide) (fun q hq => by subst hq; rfl) (by rw [hfT, h, if_pos (by decide)]; refine hB _ _ ?_; simp only [Bool.and_eq_true, decide_eq_true_eq]; omega)
  · exact go 0 0 0 1 h (by decide) (fun q hq => by subst hq; rfl) (by rw [hfT, h, if_pos (by decide)]; refine hB _ _ ?_; simp only [Bool.and_eq_true, decide_eq_true_eq]; omega)
  · exact go 0 0 0 2 h (by decide) (fun q hq => by subst hq; rfl) (by rw [hfT, h, if_pos (by decide)]; refine hB _ _ ?_; simp only [Bool.and_eq_true, decide_eq_true_eq]; omega)
  · exact go 1 1 0 3 h (by decide) (fun q hq => by subst hq; rfl) (by rw [hfT, h, if_neg (by decide), if_pos (by decide)]; refine hB _ _ ?_; simp only [Bool.and_eq_true, decide_eq_true_eq]; omega)
  · exact go 1 1 0 4 h (by decide) (fun q hq => by subst hq; rfl) (by rw [hfT, h, if_neg (by decide), if_pos (by decide)]; refine hB _ _ ?_; simp only [Bool.and_eq_true, decide_eq_true_eq]; omega)
  · exact go 2 2 0 5 h (by decide) (fun q hq => by subst hq; rfl) (by rw [hfT, h, if_neg (by decide), if_neg (by decide), if_pos rfl]; refine hB _ _ ?_; simp only [Bool.and_eq_true, decide_eq_true_eq]; omega)
  · exact go 0 4 1 6 h (by decide) (fun q hq => by subst hq; rfl) (by rw [hfT, h, if_neg (by decide), if_neg (by decide), if_neg (by decide), if_pos rfl]; refine hB _ _ ?_; simp only [Bool.and_eq_true, decide_eq_true_eq]; omega)
  · exact go 0 4 0 7 h (by decide) (fun q hq => by subst hq; rfl) (by rw [hfT, h, if_neg (by decide), if_neg (by decide), if_neg (by decide), if_neg (by decide)]; refine hB _ _ ?_; simp only [Bool.and_eq_true, decide_eq_true_eq]; omega)
theorem idxE_spec (w0 : World) (sh : Shared) (v : Value) (l : List PE) (p : PE → Bool) (f : FuncId) (caps : Array Value) (hl : RdEl w0 sh v l) (hb : l.length ≤ 1099511627776)
    (hf : ∀ x ∈ l, ∀ va vo, RdEl w0 sh va x.args → RdEl w0 sh vo x.or → FnE PP w0 sh f (.agg (List.toArray (peC x.kind x.num x.name x.meth va vo)) :: caps.toList) [] (.bool (p x)) []) :
    FnE PP w0 sh 115 [v, .func (.func f) #[] caps] [] (.int .i64 (idxP p l 0)) [] := by
  obtain ⟨a, cap, hv, _⟩ := hl.len
  subst hv
  refine fn_of_run en115 fn115 rfl rfl rfl ?_
  repeat' (first | refine zck ?_ | refine zcp (by kernel_rfl) ?_ | refine zcl ?_ | (refine zap rfl ?_; first | refine zan rfl ?_ | refine zan rfl ?_ | refine zce rfl ?_) | refine zch ?_)
  refine run_loop (S := Nat) (fun j => [(0, .slice a l.length cap), (1, .func (.func f) #[] caps), (7, .int .i64 l.length), (8, .int .i64 j)])
    (fun j Γ => Γ = [] ∧ j ≤ l.length ∧ idxP p (l.drop j) j = idxP p l 0) (fun j => l.length - j) 0 ⟨rfl, rfl, rfl, rfl, trivial⟩ ⟨rfl, by omega, rfl⟩ ?_
  rintro j Γ junk ⟨rfl, g1, g2⟩
  by_cases hj : j < l.length
  · obtain ⟨x, hx⟩ : ∃ x, l[j]? = some x := ⟨_, List.getElem?_eq_getElem hj⟩
    obtain ⟨b, off, cc, T, fr, cs, rfl, e2, e3, e4, _⟩ := hl.at hx
    obtain ⟨va, vo, rfl, r1, r2⟩ := e4.cs
    have hd : l.drop j = x :: l.drop (j + 1) := by
      rw [List.drop_eq_getElem_cons hj]
      congr 1
      exact (List.getElem?_eq_some_iff.1 hx).2
    have hc := hf x (List.mem_of_getElem? hx) va vo r1 r2
    rw [hd, idxP] at g2
    by_cases hs : p x = true
    · rw [if_pos hs] at g2
      rw [hs] at hc
      repeat' (first | refine zck ?_ | refine zcp (by kernel_rfl) ?_ | refine zcm ?_ | refine zcl ?_ | (refine zap rfl ?_; first | refine zad rfl e2 (e3 _ (by omega)) ?_ | refine zan rfl ?_ | refine zan rfl ?_ | refine zah [] hc rfl rfl rfl (fun _ h => h) rfl ?_ | refine zbg rfl rfl (by omega) ?_ | refine zas rfl rfl (by omega) ?_) | refine zch ?_ | refine zci rfl ?_)
      exact qret1 (fun _ _ h => h) rfl ⟨by rw [← g2]; rfl, rfl⟩
    · rw [if_neg hs] at g2
      rw [Bool.eq_false_iff.2 hs] at hc
      repeat' (first | refine zck ?_ | refine zcp (by kernel_rfl) ?_ | refine zcm ?_ | refine zcl ?_ | refine zcn ?_ | (refine zap rfl ?_; first | refine zad rfl e2 (e3 _ (by omega)) ?_ | refine zan rfl ?_ | refine zan rfl ?_ | refine zah [] hc rfl rfl rfl (fun _ h => h) rfl ?_ | refine zbg rfl rfl (by omega) ?_ | refine zau rfl rfl (by omega) ?_ | refine zas rfl rfl (by omega) ?_) | refine zch ?_ | refine zci rfl ?_ | refine zcj rfl ?_)
      exact cut_end ⟨rfl, j + 1, ⟨rfl, rfl, rfl, int_eq (by omega), trivial⟩, ⟨rfl, by omega, by rw [← g2]; rfl⟩, by omega⟩
  · repeat' (first | refine zck ?_ | refine zcp (by kernel_rfl) ?_ | (refine zap rfl ?_; first | refine zbh rfl rfl (by omega) ?_) | refine zch ?_ | refine zcj rfl ?_)
    refine cut_exit rfl rfl ?_
    repeat' (first | refine zck ?_ | refine zcp (by kernel_rfl) ?_ | (refine zap rfl ?_; first | refine zan rfl ?_) | refine zch ?_)
    rw [List.drop_of_length_le (by omega)] at g2
    exact ret_tmp1 rfl ⟨by rw [← g2]; rfl, rfl⟩
theorem conE_spec (w0 : World) (sh : Shared) (v : Value) (l : List PE) (p : PE → Bool) (f : FuncId) (caps : Array Value) (hl : RdEl w0 sh v l) (hb : l.length ≤ 1099511627776)
    (hf : ∀ x ∈ l, ∀ va vo, RdEl w0 sh va x.args → RdEl w0 sh vo x.or → FnE PP w0 sh f (.agg (List.toArray (peC x.kind x.num x.name x.meth va vo)) :: caps.toList) [] (.bool (p x)) []) :
    FnE PP w0 sh 99 [v, .func (.func f) #[] caps] [] (.bool (l.any p)) [] := by
  refine fn_of_run en99 fn99 rfl rfl rfl ?_
  repeat' (first | refine zck ?_ | refine zcp (by kernel_rfl) ?_ | (refine zap rfl ?_; first | refine zan rfl ?_ | refine zan rfl ?_ | refine zah [] (idxE_spec w0 sh v l p f caps hl hb hf) rfl rfl rfl (fun _ h => h) rfl ?_ | refine zbt rfl rfl ?_) | refine zch ?_)
  exact ret_tmp1 rfl ⟨bool_eq (idxP_any p l 0 (Int.le_refl _)), rfl⟩
def DSpec (w0 : World) (k : Nat) : Prop := ∀ (sh : Shared) (e : PE) (va vo : Value), e.size ≤ 1000000 → RdEl w0 sh va e.args → RdEl w0 sh vo e.or →
  FnE PP w0 sh 88 [.agg (List.toArray (peC e.kind e.num e.name e.meth va vo)), .int .i64 (k : Int)] [] (.bool (deepB k e)) []
theorem deep1_of (w0 : World) (k : Nat) (hk : k ≤ 1000) (hD : DSpec w0 k) (sh : Shared) (xc : Nat) (e : PE) (va vo : Value) (hs : e.size ≤ 1000000) (ha : RdEl w0 (bxI xc ((k + 1 : Nat) : Int) :: sh) va e.args) (ho : RdEl w0 (bxI xc ((k + 1 : Nat) : Int) :: sh) vo e.or) :
    FnE PP w0 (bxI xc ((k + 1 : Nat) : Int) :: sh) 98 [.agg (List.toArray (peC e.kind e.num e.name e.meth va vo)), .pointer (some ⟨xc, 0, none⟩)] [] (.bool (deepB k e)) [] := by
  have hd := hD _ e va vo hs ha ho
  have hkk : ((k + 1 : Nat) : Int) - 1 = (k : Int) := by omega
  refine fn_of_run en98 fn98 rfl rfl rfl ?_
  repeat (first | refine zck ?_ | refine zcl ?_ | refine zcm ?_ | refine zcn ?_)
  first | refine zcp (by kernel_rfl) ?_ | refine zcq PP_mixed (by kernel_rfl) (by kernel_rfl) ?_
  repeat' (refine zap rfl ?_; first | refine zan rfl ?_ | refine zaq (cs := [_, _, _, _, _, _]) rfl (fun nb => ?_))
  all_goals refine zch ?_
  all_goals repeat (first | refine zck ?_ | refine zcl ?_ | refine zcm ?_ | refine zcn ?_)
  refine run_share [0] rfl ?_
  repeat (first | refine zck ?_ | refine zcl ?_ | refine zcm ?_ | refine zcn ?_)
  first | refine zcp (by kernel_rfl) ?_ | refine zcq PP_mixed (by kernel_rfl) (by kernel_rfl) ?_
  repeat' (refine zap rfl ?_; first | (refine zav rfl rfl (by omega) ?_; rw [hkk]) | refine zan rfl ?_ | refine zaa 0 rfl rfl rfl ?_ | refine zaa 1 rfl rfl rfl ?_ | refine zah [] hd rfl rfl rfl (fun p hp => List.mem_cons_of_mem _ hp) rfl ?_)
  all_goals refine zch ?_
  all_goals repeat (first | refine zck ?_ | refine zcl ?_ | refine zcm ?_ | refine zcn ?_)
  exact ret_tmp1 rfl ⟨rfl, rfl⟩
set_option maxHeartbeats 2000000 in
theorem deep_spec (w0 : World) : ∀ k, k ≤ 1000 → DSpec w0 k
  | 0, _ => by
    intro sh e va vo _ ha ho
    refine fn_of_run en88 fn88 rfl rfl rfl ?_
    repeat (first | refine zck ?_ | refine zcl ?_ | refine zcm ?_ | refine zcn ?_)
    first | refine zcp (by kernel_rfl) ?_ | refine zcq PP_mixed (by kernel_rfl) (by kernel_rfl) ?_
    repeat' (refine zap rfl ?_; first | refine zan rfl ?_ | refine zaq (cs := [_]) rfl (fun nb => ?_) | refine zaq (cs := [_, _, _, _, _, _]) rfl (fun nb => ?_))
    all_goals refine zch ?_
    all_goals repeat (first | refine zck ?_ | refine zcl ?_ | refine zcm ?_ | refine zcn ?_)
    refine run_share [0] rfl ?_
    refine run_share [0] rfl ?_
    repeat (first | refine zck ?_ | refine zcl ?_ | refine zcm ?_ | refine zcn ?_)
    first | refine zcp (by kernel_rfl) ?_ | refine zcq PP_mixed (by kernel_rfl) (by kernel_rfl) ?_
    repeat' (refine zap rfl ?_; first | refine zan rfl ?_ | refine zan rfl ?_)
    all_goals refine zch ?_
    all_goals repeat (first | refine zck ?_ | refine zcl ?_ | refine zcm ?_ | refine zcn ?_)
    repeat (first | refine zck ?_ | refine zcl ?_ | refine zcm ?_ | refine zcn ?_)
    first | refine zcp (by kernel_rfl) ?_ | refine zcq PP_mixed (by kernel_rfl) (by kernel_rfl) ?_
    repeat' (refine zap rfl ?_; first | refine zak rfl ?_ | refine zan rfl ?_ | refine zan rfl ?_ | refine zaa 0 rfl rfl rfl ?_ | refine zbc rfl rfl (by omega) ?_ | refine zbu rfl ?_)
    all_goals refine zch ?_
    all_goals repeat (first | refine zck ?_ | refine zcl ?_ | refine zcm ?_ | refine zcn ?_)
    exact ret_tmp1 rfl ⟨rfl, rfl⟩
  | k + 1, hk => by
    intro sh e va vo hs ha ho
    have ih := deep_spec w0 k (by omega)
    have hsz := e.size_eq
    have la := PE.sizeL_len e.args
    have lo := PE.sizeL_len e.or
    refine fn_of_run en88 fn88 rfl rfl rfl ?_
    repeat (first | refine zck ?_ | refine zcl ?_ | refine zcm ?_ | refine zcn ?_)
    first | refine zcp (by kernel_rfl) ?_ | refine zcq PP_mixed (by kernel_rfl) (by kernel_rfl) ?_
    repeat' (refine zap rfl ?_; first | refine zaq (cs := [_, _, _, _, _, _]) rfl (fun te => ?_) | refine zaq (cs := [_]) rfl (fun tm => ?_) | refine zan rfl ?_)
    all_goals refine zch ?_
    all_goals repeat (first | refine zck ?_ | refine zcl ?_ | refine zcm ?_ | refine zcn ?_)
    refine run_share [0] rfl ?_
    refine run_share [0] rfl ?_
    have cA := conE_spec w0 (bxI tm ((k + 1 : Nat) : Int) :: sh) va e.args (deepB k) 98 #[.pointer (some ⟨tm, 0, none⟩)] (ha.mono fun p hp => List.mem_cons_of_mem _ hp) (by omega)
      (fun x hx va vo r1 r2 => deep1_of w0 k (by omega) ih sh tm x va vo (by have := PE.size_args hx; omega) r1 r2)
    have cO := conE_spec w0 (bxI tm ((k + 1 : Nat) : Int) :: sh) vo e.or (deepB k) 98 #[.pointer (some ⟨tm, 0, none⟩)] (ho.mono fun p hp => List.mem_cons_of_mem _ hp) (by omega)
      (fun x hx va vo r1 r2 => deep1_of w0 k (by omega) ih sh tm x va vo (by have := PE.size_or hx; omega) r1 r2)
    have hsub : ∀ p ∈ bxI tm ((k + 1 : Nat) : Int) :: sh, p ∈ bxI tm ((k + 1 : Nat) : Int) :: (te, Obj.cells (List.toArray (peC e.kind e.num e.name e.meth va vo)) 91 (0, 0)) :: sh := fun p hp => by
      rcases List.mem_cons.1 hp with hp | hp
      · rw [hp]; exact .head _
      · exact .tail _ (.tail _ hp)
    rw [deepB]
    cases hA : e.args.any (deepB k) with
    | true =>
      rw [hA] at cA
      repeat (first | refine zck ?_ | refine zcl ?_ | refine zcm ?_ | refine zcn ?_)
      first | refine zcp (by kernel_rfl) ?_ | refine zcq PP_mixed (by kernel_rfl) (by kernel_rfl) ?_
      repeat' (refine zap rfl ?_; first | refine zan rfl ?_ | refine zan rfl ?_)
      all_goals refine zch ?_
      all_goals repeat (first | refine zck ?_ | refine zcl ?_ | refine zcm ?_ | refine zcn ?_)
      repeat (first | refine zck ?_ | refine zcl ?_ | refine zcm ?_ | refine zcn ?_)
      first | refine zcp (by kernel_rfl) ?_ | refine zcq PP_mixed (by kernel_rfl) (by kernel_rfl) ?_
      repeat' (refine zap rfl ?_; first | refine zaj rfl ?_ | refine zak rfl ?_ | refine zan rfl ?_ | refine zan rfl ?_ | refine zaa 0 rfl rfl rfl ?_ | refine zaa 1 rfl rfl rfl ?_ | refine zah [] cA rfl rfl rfl hsub rfl ?_ | refine zao rfl ?_ | refine zbd rfl rfl (by omega) ?_ | refine zbu rfl ?_ | refine zbv rfl ?_)
      all_goals refine zch ?_
      all_goals repeat (first | refine zck ?_ | refine zcl ?_ | refine zcm ?_ | refine zcn ?_)
      exact ret_tmp1 rfl ⟨rfl, rfl⟩
    | false =>
      rw [hA] at cA
      repeat (first | refine zck ?_ | refine zcl ?_ | refine zcm ?_ | refine zcn ?_)
      first | refine zcp (by kernel_rfl) ?_ | refine zcq PP_mixed (by kernel_rfl) (by kernel_rfl) ?_
      repeat' (refine zap rfl ?_; first | refine zan rfl ?_ | refine zan rfl ?_)
      all_goals refine zch ?_
      all_goals repeat (first | refine zck ?_ | refine zcl ?_ | refine zcm ?_ | refine zcn ?_)
      repeat (first | refine zck ?_ | refine zcl ?_ | refine zcm ?_ | refine zcn ?_)
      first | refine zcp (by kernel_rfl) ?_ | refine zcq PP_mixed (by kernel_rfl) (by kernel_rfl) ?_
      repeat' (refine zap rfl ?_; first | refine zaj rfl ?_ | refine zan rfl ?_ | refine zan rfl ?_ | refine zaa 0 rfl rfl rfl ?_ | refine zaa 1 rfl rfl rfl ?_ | refine zah [] cA rfl rfl rfl hsub rfl ?_ | refine zah [] cO rfl rfl rfl hsub rfl ?_ | refine zao rfl ?_ | refine zbd rfl rfl (by omega) ?_ | refine zbv rfl ?_)
      all_goals refine zch ?_
      all_goals repeat (first | refine zck ?_ | refine zcl ?_ | refine zcm ?_ | refine zcn ?_)
      exact ret_tmp1 rfl ⟨rfl, rfl⟩
end Go.Proofs.YtfnjeldpfilplaaGreatDoor

namespace Sim
end Sim
namespace Go.Proofs.YtfnjeldpfilplaaGreatDoor
open Go.Vc Sim
end Go.Proofs.YtfnjeldpfilplaaGreatDoor

namespace Sim
end Sim
namespace Go.Vc
open Sim
theorem RdC.of {w0 : World} {sh : Shared} {m b : Nat} {cl : List (List Value)} {T : TypeId} {fr : Nat × Nat} (hq : ∀ x ∈ cl, x.length = m) (h : (b, Obj.cells (List.toArray (cl.flatMap fun x => x)) T fr) ∈ sh) : RdC w0 sh m (.slice (some ⟨b, 0, none⟩) cl.length cl.length) cl :=
  RdSl.flat (encE := fun x : List Value => x) (q := m) (w0 := w0) (b := b) (l := cl) hq h
theorem RdEl.nil0 {w0 : World} {sh : Shared} : RdEl w0 sh (.slice none 0 0) [] := ⟨[], RdSl.nil, by unfold RdEs; rfl⟩
theorem RdSt.nil0 {w0 : World} {sh : Shared} : RdSt w0 sh (.slice none 0 0) [] := ⟨[], RdSl.nil, by unfold RdSs; rfl⟩
theorem RdEl.one {w0 : World} {sh : Shared} {b : Nat} {e : PE} {c : List Value} {T : TypeId} {fr : Nat × Nat} (he : RdE w0 sh e c) (hc : c.length = 6) (h : (b, Obj.cells (List.toArray (c ++ [])) T fr) ∈ sh) : RdEl w0 sh (.slice (some ⟨b, 0, none⟩) 1 1) [e] :=
  ⟨[c], RdC.of (cl := [c]) (fun x hx => by rw [List.mem_singleton.1 hx]; exact hc) h, by unfold RdEs; exact ⟨c, [], rfl, he, by unfold RdEs; rfl⟩⟩
theorem RdEl.two {w0 : World} {sh : Shared} {b : Nat} {e e' : PE} {c c' : List Value} {T : TypeId} {fr : Nat × Nat} (he : RdE w0 sh e c) (hc : c.length = 6) (he' : RdE w0 sh e' c') (hc' : c'.length = 6) (h : (b, Obj.cells (List.toArray (c ++ (c' ++ []))) T fr) ∈ sh) : RdEl w0 sh (.slice (some ⟨b, 0, none⟩) 2 2) [e, e'] :=
  ⟨[c, c'], RdC.of (cl := [c, c']) (fun x hx => by simp at hx; rcases hx with rfl | rfl <;> assumption) h, by unfold RdEs; exact ⟨c, [c'], rfl, he, by unfold RdEs; exact ⟨c', [], rfl, he', by unfold RdEs; rfl⟩⟩⟩
theorem RdSt.one {w0 : World} {sh : Shared} {b : Nat} {e : PS} {c : List Value} {T : TypeId} {fr : Nat × Nat} (he : RdS w0 sh e c) (hc : c.length = 11) (h : (b, Obj.cells (List.toArray (c ++ [])) T fr) ∈ sh) : RdSt w0 sh (.slice (some ⟨b, 0, none⟩) 1 1) [e] :=
  ⟨[c], RdC.of (cl := [c]) (fun x hx => by rw [List.mem_singleton.1 hx]; exact hc) h, by unfold RdSs; exact ⟨c, [], rfl, he, by unfold RdSs; rfl⟩⟩
theorem RdSt.two {w0 : World} {sh : Shared} {b : Nat} {e e' : PS} {c c' : List Value} {T : TypeId} {fr : Nat × Nat} (he : RdS w0 sh e c) (hc : c.length = 11) (he' : RdS w0 sh e' c') (hc' : c'.length = 11) (h : (b, Obj.cells (List.toArray (c ++ (c' ++ []))) T fr) ∈ sh) : RdSt w0 sh (.slice (some ⟨b, 0, none⟩) 2 2) [e, e'] :=
  ⟨[c, c'], RdC.of (cl := [c, c']) (fun x hx => by simp at hx; rcases hx with rfl | rfl <;> assumption) h, by unfold RdSs; exact ⟨c, [c'], rfl, he, by unfold RdSs; exact ⟨c', [], rfl, he', by unfold RdSs; rfl⟩⟩⟩
theorem RdS.of {w0 : World} {sh : Shared} {s : PS} {va vo vb ve : Value} (h1 : RdEl w0 sh va s.expr.args) (h2 : RdEl w0 sh vo s.expr.or) (h3 : RdSt w0 sh vb s.body) (h4 : RdSt w0 sh ve s.els) : RdS w0 sh s (psC s va vo vb ve) := by
  cases s
  obtain ⟨cl, g1, g2⟩ := h3
  obtain ⟨cl', g3, g4⟩ := h4
  have he := RdE.of h1 h2
  unfold RdS
  exact ⟨_, vb, ve, cl, cl', rfl, he, g1, g2, g3, g4⟩
theorem RdOl.one {w0 : World} {sh : Shared} {b : Nat} {o : PO} {c : List Value} {T : TypeId} {fr : Nat × Nat} (ho : RdO w0 sh o c) (hc : c.length = 3) (h : (b, Obj.cells (List.toArray (c ++ [])) T fr) ∈ sh) : RdOl w0 sh (.slice (some ⟨b, 0, none⟩) 1 1) [o] :=
  ⟨[c], RdC.of (cl := [c]) (fun x hx => by rw [List.mem_singleton.1 hx]; exact hc) h, c, [], rfl, ho, rfl⟩
end Go.Vc
namespace Go.Proofs.YtfnjeldpfilplaaGreatDoor
open Go.Vc Sim
end Go.Proofs.YtfnjeldpfilplaaGreatDoor

namespace Go.Proofs.YtfnjeldpfilplaaGreatDoor
open Go.Vc Sim
end Go.Proofs.YtfnjeldpfilplaaGreatDoor

namespace Sim
open Go Go.Vc
def Ef.nm (e : Ef) : Prop := joinE e zeroE = e
theorem joinE_nm (a b : Ef) : (joinE a b).nm := by
  unfold Ef.nm joinE zeroE
  have h := sumC_range a.calls b.calls
  simp only [normN_nil, sumC_zero]
  rw [normN_id (normN_str _), normN_id (normN_str _), normN_id (normN_str _), bndC_id h.1 h.2]
theorem zeroE_nm : zeroE.nm := by unfold Ef.nm; rfl
theorem stmtEs_nm (ks : List (ByteArray × ByteArray)) : ∀ (l : List PS) (out : Ef) (w : Int), out.nm → (stmtEs ks l out w).1.nm
  | [], out, w, h => by rw [stmtEs]; exact h
  | e :: l, out, w, h => by rw [stmtEs]; exact stmtEs_nm ks l _ _ (joinE_nm _ _)
def PO.put (o : PO) (b : List PS) : PO := ⟨o.name, o.params, b⟩
end Sim

namespace Sim
open Go Go.Vc
def Ef.ok (e : Ef) : Prop := (∀ x ∈ e.writes, x ∈ e.reads) ∧ 0 ≤ e.calls ∧ (e.reads ≠ [] → 1 ≤ e.calls)
theorem zeroE_ok : zeroE.ok := And.intro (fun x h => by cases h) (And.intro (Int.le_refl 0) (fun h => absurd rfl h))
theorem bndC_pos {n : Int} (h : 1 ≤ n) : 1 ≤ bndC n := by unfold bndC mostC; split <;> (try split) <;> omega
theorem sumC_pos {a b : Int} (h : 1 ≤ a ∨ 1 ≤ b) : 1 ≤ sumC a b := by
  have h1 := bndC_range a
  have h2 := bndC_range b
  unfold sumC
  rcases h with h | h
  · have := bndC_pos h
    split
    · unfold mostC; omega
    · omega
  · have := bndC_pos h
    split
    · unfold mostC; omega
    · omega
theorem normN_ne {a b : List ByteArray} (h : normN (a ++ b) ≠ []) : a ≠ [] ∨ b ≠ [] := by
  cases a with
  | nil => right; intro hb; rw [hb] at h; exact h rfl
  | cons x a => left; exact List.cons_ne_nil _ _
theorem sub_join {w1 w2 r1 r2 : List ByteArray} (h1 : ∀ x ∈ w1, x ∈ r1) (h2 : ∀ x ∈ w2, x ∈ r2) : ∀ x ∈ normN (w1 ++ w2), x ∈ normN (r1 ++ r2) := fun x hx => by
  rw [mem_normN, List.mem_append] at hx ⊢
  exact hx.elim (fun h => .inl (h1 x h)) (fun h => .inr (h2 x h))
theorem joinE_ok {a b : Ef} (ha : a.ok) (hb : b.ok) : (joinE a b).ok :=
  ⟨sub_join ha.1 hb.1, (sumC_range _ _).1, fun h => sumC_pos ((normN_ne h).elim (fun g => .inl (ha.2.2 g)) (fun g => .inr (hb.2.2 g)))⟩
theorem timesE_ok {e : Ef} (n : Int) (h : e.ok) : (timesE e n).ok := by
  unfold timesE
  split
  · exact zeroE_ok
  · rename_i hn
    obtain ⟨h1, h2, h3⟩ := joinE_ok h zeroE_ok
    refine ⟨h1, ?_, fun hr => ?_⟩
    · dsimp only
      split
      · unfold mostC; omega
      · exact Int.mul_nonneg h2 (by omega)
    · have h4 := h3 hr
      dsimp only
      split
      · unfold mostC; omega
      · have := Int.mul_le_mul h4 (show 1 ≤ n by omega) (by omega) (by omega)
        omega
theorem partE_ok {k num : Int} {a b c : Ef} (ha : a.ok) (hb : b.ok) (hc : c.ok) : (partE k num a b c).ok := by
  unfold partE
  split
  · exact timesE_ok num hb
  · refine joinE_ok ha ⟨(joinE_ok hb hc).1, ?_, fun h => ?_⟩
    · have := hb.2.1
      have := hc.2.1
      dsimp only
      unfold maxC
      split <;> omega
    · have h1 := hb.2.1
      have h2 := hc.2.1
      dsimp only
      rcases normN_ne h with g | g
      · have := hb.2.2 g
        unfold maxC
        split <;> omega
      · have := hc.2.2 g
        unfold maxC
        split <;> omega
theorem callE_ok (ks : List (ByteArray × ByteArray)) (s m : ByteArray) : (callE ks s m).ok := by
  refine ⟨fun x hx => ?_, show (0 : Int) ≤ 1 by decide, fun _ => show (1 : Int) ≤ 1 by decide⟩
  unfold callE at hx ⊢
  dsimp only at hx ⊢
  split at hx
  · exact hx
  · cases hx
theorem nodeE_ok {ks : List (ByteArray × ByteArray)} {k : Int} {a b : ByteArray} {out : Ef} (h : out.ok) : (nodeE ks k a b out).ok := by
  unfold nodeE
  split
  · exact joinE_ok h (callE_ok ks a b)
  · split
    · exact joinE_ok h (And.intro (fun x h => by cases h) (And.intro (Int.le_refl 0) (fun h => absurd rfl h)))
    · exact h
mutual
theorem exprE_ok (ks : List (ByteArray × ByteArray)) : ∀ (e : PE) (w : Int), (exprE ks e w).1.ok
  | .mk k num a b xs ys, w => by
    rw [exprE]
    exact nodeE_ok (exprEs_ok ks ys _ _ (exprEs_ok ks xs _ _ zeroE_ok))
theorem exprEs_ok (ks : List (ByteArray × ByteArray)) : ∀ (l : List PE) (out : Ef) (w : Int), out.ok → (exprEs ks l out w).1.ok
  | [], out, w, h => by rw [exprEs]; exact h
  | e :: l, out, w, h => by rw [exprEs]; exact exprEs_ok ks l _ _ (joinE_ok h (exprE_ok ks e w))
end
mutual
theorem stmtE_ok (ks : List (ByteArray × ByteArray)) : ∀ (s : PS) (w : Int), (stmtE ks s w).1.ok
  | .mk k a num e body els, w => by
    rw [stmtE]
    exact partE_ok (exprE_ok ks e w) (stmtEs_ok ks body _ _ zeroE_ok) (stmtEs_ok ks els _ _ zeroE_ok)
theorem stmtEs_ok (ks : List (ByteArray × ByteArray)) : ∀ (l : List PS) (out : Ef) (w : Int), out.ok → (stmtEs ks l out w).1.ok
  | [], out, w, h => by rw [stmtEs]; exact h
  | e :: l, out, w, h => by rw [stmtEs]; exact stmtEs_ok ks l _ _ (joinE_ok h (stmtE_ok ks e w))
end
def Ef.le (a b : Ef) : Prop := (∀ x ∈ a.reads, x ∈ b.reads) ∧ (∀ x ∈ a.writes, x ∈ b.writes) ∧ (∀ x ∈ a.hosts, x ∈ b.hosts) ∧ a.calls ≤ b.calls
theorem Ef.le.trans {a b c : Ef} (h : a.le b) (g : b.le c) : a.le c := ⟨fun x hx => g.1 x (h.1 x hx), fun x hx => g.2.1 x (h.2.1 x hx), fun x hx => g.2.2.1 x (h.2.2.1 x hx), Int.le_trans h.2.2.2 g.2.2.2⟩
theorem Ef.nm.calls {a : Ef} (h : a.nm) : 0 ≤ a.calls ∧ a.calls ≤ mostC := by
  unfold Ef.nm at h
  rw [← h]
  exact sumC_range _ _
end Sim

namespace Sim
open Go Go.Vc
theorem exprE_mk (ks : List (ByteArray × ByteArray)) (k n : Int) (name meth : ByteArray) (xs ys : List PE) (w : Int) : exprE ks (.mk k n name meth xs ys) w =
    (nodeE ks k name meth (exprEs ks ys (exprEs ks xs zeroE w).1 (exprEs ks xs zeroE w).2).1, nodeW ks k name meth (exprEs ks ys (exprEs ks xs zeroE w).1 (exprEs ks xs zeroE w).2).2) := by rw [exprE]
theorem stmtE_mk (ks : List (ByteArray × ByteArray)) (k : Int) (a : ByteArray) (num : Int) (e : PE) (body els : List PS) (w : Int) : stmtE ks (.mk k a num e body els) w =
    (partE k num (exprE ks e w).1 (stmtEs ks body zeroE (exprE ks e w).2).1 (stmtEs ks els zeroE (stmtEs ks body zeroE (exprE ks e w).2).2).1, (stmtEs ks els zeroE (stmtEs ks body zeroE (exprE ks e w).2).2).2) := by rw [stmtE]
theorem exprE_empty {ks : List (ByteArray × ByteArray)} : ∀ {e : PE} (w : Int), emptyE e = true → exprE ks e w = (zeroE, w)
  | .mk k n a b xs ys, w, h => by
    unfold emptyE at h
    simp only [PE.kind, PE.args, PE.or, Bool.and_eq_true, decide_eq_true_eq, List.length_eq_zero_iff] at h
    obtain ⟨⟨⟨⟨⟨hk, _⟩, _⟩, _⟩, rfl⟩, rfl⟩ := h
    have hk : k = 0 := of_decide_eq_true hk
    subst hk
    rw [exprE_mk, exprEs, exprEs]
    rfl
theorem formS_parts {k : Int} {a : ByteArray} {num : Int} {e : PE} {xs ys : List PS} (h : formS (.mk k a num e xs ys) = true) : (hasEx k = false → emptyE e = true) ∧ (k ≠ 3 → ys = []) ∧ (k ≠ 3 → k ≠ 4 → xs = []) := by
  rw [formS_N] at h
  unfold formSN at h
  split at h
  · cases h
  · rename_i h1
    split at h
    · cases h
    · rename_i h2
      simp only [Bool.or_eq_true, Bool.and_eq_true, decide_eq_true_eq, Bool.not_eq_true', not_or, not_and] at h1 h2
      refine ⟨fun hx => by simpa using h1.2 hx, fun h3 => ?_, fun h3 h4 => ?_⟩
      · have := h2.1 h3
        exact List.length_eq_zero_iff.1 (by omega)
      · have := h2.2 ⟨h3, h4⟩
        exact List.length_eq_zero_iff.1 (by omega)
end Sim

namespace Sim
open Go Go.Vc
def ctG : List (ByteArray × List (ByteArray × Int × Bool)) := (List.range 10).map fun i => (ctNames.getD i (bs []), ctRows.getD i [])
end Sim

namespace Sim
open Go Go.Vc
end Sim

namespace Go.Proofs.YtfnjeldpfilplaaGreatDoor
open Go.Vc Sim
end Go.Proofs.YtfnjeldpfilplaaGreatDoor

namespace Sim
open Go Go.Vc
abbrev MA := ByteArray × ByteArray × Int
def grpA (nm : ByteArray) (ms : List (ByteArray × Int × Bool)) : List MA := ms.map fun r => (nm, r.1, r.2.1)
def allA : List (ByteArray × List (ByteArray × Int × Bool)) → List MA
  | [] => []
  | g :: gs => grpA g.1 g.2 ++ allA gs
def ctA : List MA := allA ctG
end Sim
namespace Go.Vc
open Sim
abbrev encMA (x : MA) : List Value := [.string x.1, .string x.2.1, .int .i64 x.2.2]
end Go.Vc
namespace Go.Proofs.YtfnjeldpfilplaaGreatDoor
open Go.Vc Sim
end Go.Proofs.YtfnjeldpfilplaaGreatDoor

namespace Sim
open Go Go.Vc
end Sim

namespace Sim
open Go Go.Vc
end Sim

namespace Sim
open Go Go.Vc
end Sim

namespace Sim
open Go Go.Vc
end Sim

namespace Sim
open Go Go.Vc
def turnP (p : PP') (n : Nat) : PP' := ⟨p.stores, p.opers.drop n ++ p.opers.take n⟩
theorem turn_perm (l : List PO) (n : Nat) : (l.drop n ++ l.take n).Perm l := by
  have h := List.perm_append_comm (l₁ := l.drop n) (l₂ := l.take n)
  rwa [List.take_append_drop] at h
theorem turn_well {p : PP'} (h : WellP p) (n : Nat) : WellP (turnP p n) :=
  wellP_sub h (fun o ho => (turn_perm p.opers n).mem_iff.1 ho) ((((turn_perm p.opers n).map (·.name)).nodup_iff).2 (checkP_iff.1 h.check).2.2.2.2) (by rw [(turn_perm p.opers n).length_eq]; exact (checkP_iff.1 h.check).2.1)
end Sim

namespace Sim
open Go Go.Vc
structure PL where
  oper : ByteArray
  cls : Int
  stores : List ByteArray
  calls : Int
def clsN (r w : Nat) : Int := if r = 0 then 0 else if w = 0 then 1 else 2
def planE (s : ByteArray) (e : Ef) : PL := ⟨s, clsN e.reads.length e.writes.length, e.reads, e.calls⟩
def zeroPl : PL := ⟨bs [], 0, [], 0⟩
def planP (p : PP') (s : ByteArray) : PL × Int := if (tyP p).2 ≠ 0 then (zeroPl, (tyP p).2) else if (ofP p s).2 ≠ 0 then (zeroPl, (ofP p s).2) else (planE s (ofP p s).1, 0)
def planO (p : PP') (o : PO) : PL := planE o.name (stmtEs p.stores o.body zeroE 0).1
def planA (p : PP') : List PL × Int := if (tyP p).2 ≠ 0 then ([], (tyP p).2) else (p.opers.map (planO p), 0)
def Ef.dc (ks : List (ByteArray × ByteArray)) (e : Ef) : Prop := ∀ x ∈ e.reads, (lookK ks x).isSome = true
theorem zeroE_dc (ks : List (ByteArray × ByteArray)) : zeroE.dc ks := fun x hx => by cases hx
theorem mem_norm {a : List ByteArray} {x : ByteArray} : x ∈ normN a ↔ x ∈ a := by
  have h := (normN_law a (a := []) List.Pairwise.nil).2 x
  unfold normN
  rw [h]; simp
theorem joinE_dc {ks : List (ByteArray × ByteArray)} {a b : Ef} (ha : a.dc ks) (hb : b.dc ks) : (joinE a b).dc ks := fun x hx => by
  rcases List.mem_append.1 (mem_norm.1 hx) with h | h
  · exact ha x h
  · exact hb x h
theorem timesE_dc {ks : List (ByteArray × ByteArray)} {a : Ef} (n : Int) (ha : a.dc ks) : (timesE a n).dc ks := by
  unfold timesE
  split
  · exact zeroE_dc ks
  · exact fun x hx => joinE_dc ha (zeroE_dc ks) x hx
theorem partE_dc {ks : List (ByteArray × ByteArray)} {k num : Int} {a b c : Ef} (ha : a.dc ks) (hb : b.dc ks) (hc : c.dc ks) : (partE k num a b c).dc ks := by
  unfold partE
  split
  · exact timesE_dc num hb
  · exact joinE_dc ha (fun x hx => joinE_dc hb hc x hx)
theorem callT_callW {E : TEnv} {ks : List (ByteArray × ByteArray)} (hE : E.stores = lookK ks) {e : PE} {ts : List Int} (h : callT E e ts = 0) :
    callW ks e.name e.meth 0 = 0 ∧ (lookK ks e.name).isSome = true := by
  unfold callT at h
  rw [hE] at h
  unfold callW nameK kindZ
  cases h1 : lookK ks e.name with
  | none => rw [h1] at h; exact absurd (show (16 : Int) = 0 from h) (by decide)
  | some nm =>
    rw [h1] at h
    dsimp only at h
    cases h2 : ctKind nm with
    | none => rw [h2] at h; exact absurd (show (2 : Int) = 0 from h) (by decide)
    | some k =>
      rw [h2] at h
      dsimp only at h
      cases h3 : ctFind k e.meth with
      | none => rw [h3] at h; exact absurd (show (14 : Int) = 0 from h) (by decide)
      | some m => simp [h2, h3]
mutual
theorem exprE_ty {E : TEnv} {ks : List (ByteArray × ByteArray)} (hE : E.stores = lookK ks) : ∀ (e : PE), (ofE E e).2 = 0 → (exprE ks e 0).2 = 0 ∧ (exprE ks e 0).1.dc ks
  | .mk k n a b xs ys, h => by
    have hp := fun x (hx : x ∈ xs ++ ys) => ofE_parts (e := .mk k n a b xs ys) h hx
    obtain ⟨_, _, _, h4, _⟩ := ofE_good h
    obtain ⟨x1, x2⟩ := exprEs_ty hE xs zeroE (fun x hx => hp x (List.mem_append_left _ hx)) (zeroE_dc ks)
    obtain ⟨y1, y2⟩ := exprEs_ty hE ys (exprEs ks xs zeroE 0).1 (fun x hx => hp x (List.mem_append_right _ hx)) x2
    rw [exprE_mk, x1]
    by_cases h6 : k = 6
    · subst h6
      have h7 : callT E (.mk 6 n a b xs ys) (ofEs E xs).1 = 0 := by
        unfold ruleE at h4
        have h4 : (if callT E (.mk 6 n a b xs ys) (ofEs E xs).1 ≠ 0 then ((0 : Int), callT E (.mk 6 n a b xs ys) (ofEs E xs).1) else (1, 0)).2 = 0 := h4
        by_cases hc : callT E (.mk 6 n a b xs ys) (ofEs E xs).1 = 0
        · exact hc
        · rw [if_pos hc] at h4; exact absurd h4 hc
      obtain ⟨c1, c2⟩ := callT_callW hE h7
      refine ⟨?_, ?_⟩
      · show nodeW ks 6 a b (exprEs ks ys (exprEs ks xs zeroE 0).1 0).2 = 0
        rw [y1]
        exact c1
      · show (joinE (exprEs ks ys (exprEs ks xs zeroE 0).1 0).1 (callE ks a b)).dc ks
        exact joinE_dc y2 (fun x hx => by
          have hx : x ∈ [a] := hx
          rw [List.mem_singleton] at hx; subst hx; exact c2)
    · refine ⟨?_, ?_⟩
      · show nodeW ks k a b (exprEs ks ys (exprEs ks xs zeroE 0).1 0).2 = 0
        unfold nodeW
        rw [if_neg h6, y1]
      · show (nodeE ks k a b (exprEs ks ys (exprEs ks xs zeroE 0).1 0).1).dc ks
        unfold nodeE
        rw [if_neg h6]
        split
        · exact joinE_dc y2 (fun x hx => by cases hx)
        · exact y2
theorem exprEs_ty {E : TEnv} {ks : List (ByteArray × ByteArray)} (hE : E.stores = lookK ks) : ∀ (l : List PE) (out : Ef), (∀ x ∈ l, (ofE E x).2 = 0) → out.dc ks → (exprEs ks l out 0).2 = 0 ∧ (exprEs ks l out 0).1.dc ks
  | [], out, _, h => by rw [exprEs]; exact ⟨rfl, h⟩
  | e :: l, out, h, ho => by
    obtain ⟨e1, e2⟩ := exprE_ty hE e (h e (.head _))
    rw [exprEs, e1]
    exact exprEs_ty hE l _ (fun x hx => h x (.tail _ hx)) (joinE_dc ho e2)
end
theorem typeOf_ty {E : TEnv} {e : PE} (h : (typeOf E e).2 = 0) : (ofE E e).2 = 0 := by
  unfold typeOf at h
  by_cases hd : deepB 12 e = true
  · rw [if_pos hd] at h; exact absurd (show (18 : Int) = 0 from h) (by decide)
  · rwa [if_neg hd] at h
theorem oneT_zero {K : ByteArray → Option ByteArray} {all there : TV} {s : PS} (h : (oneT K all there s).2.2 = 0) : (exT K there s).2 = 0 := by
  unfold oneT at h
  by_cases hc : (exT K there s).2 = 0
  · exact hc
  · rw [if_pos hc] at h; exact absurd h hc
mutual
theorem stmtE_ty {ks : List (ByteArray × ByteArray)} : ∀ (s : PS) (all there : TV) (d : Int), (tyS (lookK ks) s all there).2.2 = 0 → wrongS s d = 0 → (stmtE ks s 0).2 = 0 ∧ (stmtE ks s 0).1.dc ks
  | .mk k a n e xs ys, all, there, d, h, hw => by
    obtain ⟨w1, w2, w3⟩ := wrongS_zero hw
    rw [tyS_mk] at h
    by_cases c1 : (oneT (lookK ks) all there (.mk k a n e xs ys)).2.2 = 0
    rotate_left
    · rw [if_pos c1] at h; exact absurd h c1
    rw [if_neg (fun q => q c1)] at h
    by_cases c2 : (tySs (lookK ks) xs (oneT (lookK ks) all there (.mk k a n e xs ys)).1 (oneT (lookK ks) all there (.mk k a n e xs ys)).2.1).2 = 0
    rotate_left
    · rw [if_pos c2] at h; exact absurd h c2
    rw [if_neg (fun q => q c2)] at h
    have h : (tySs (lookK ks) ys _ _).2 = 0 := h
    have he : (exprE ks e 0).2 = 0 ∧ (exprE ks e 0).1.dc ks := by
      have h0 := oneT_zero c1
      unfold exT at h0
      by_cases hx : hasEx k = true
      · rw [if_pos (by exact hx)] at h0
        exact exprE_ty (E := envT (lookK ks) there) rfl e (typeOf_ty h0)
      · have hf : formS (.mk k a n e xs ys) = true := by
          unfold wrongS0 at w1
          split at w1
          · exact absurd (show (18 : Int) = 0 from w1) (by decide)
          split at w1
          · exact absurd (show (2 : Int) = 0 from w1) (by decide)
          split at w1
          · exact absurd (show (5 : Int) = 0 from w1) (by decide)
          · rename_i hf; simpa using hf
        rw [exprE_empty 0 ((formS_parts hf).1 (by simpa using hx))]
        exact ⟨rfl, zeroE_dc ks⟩
    obtain ⟨e1, e2⟩ := he
    obtain ⟨x1, x2⟩ := stmtEs_ty xs _ _ (d + 1) zeroE c2 w2 (zeroE_dc ks)
    obtain ⟨y1, y2⟩ := stmtEs_ty ys _ _ (d + 1) zeroE h w3 (zeroE_dc ks)
    rw [stmtE_mk, e1, x1]
    exact ⟨y1, partE_dc e2 x2 y2⟩
theorem stmtEs_ty {ks : List (ByteArray × ByteArray)} : ∀ (l : List PS) (all there : TV) (d : Int) (out : Ef), (tySs (lookK ks) l all there).2 = 0 → wrongSs l d = 0 → out.dc ks → (stmtEs ks l out 0).2 = 0 ∧ (stmtEs ks l out 0).1.dc ks
  | [], _, _, _, out, _, _, ho => by rw [stmtEs]; exact ⟨rfl, ho⟩
  | s :: l, all, there, d, out, h, hw, ho => by
    rw [wrongSs] at hw
    rw [tySs] at h
    by_cases c1 : (tyS (lookK ks) s all there).2.2 = 0
    rotate_left
    · rw [if_pos c1] at h; exact absurd h c1
    rw [if_neg (fun q => q c1)] at h
    by_cases c2 : wrongS s d = 0
    rotate_left
    · rw [if_pos c2] at hw; exact absurd hw c2
    rw [if_neg (fun q => q c2)] at hw
    obtain ⟨s1, s2⟩ := stmtE_ty s all there d c1 c2
    rw [stmtEs, s1]
    exact stmtEs_ty l _ _ d _ h hw (joinE_dc ho s2)
end
def Ef.rc (e : Ef) : Prop := e.calls ≠ 0 → e.reads ≠ []
theorem zeroE_rc : zeroE.rc := fun h => absurd rfl h
theorem sumC_ne {a b : Int} (h : sumC a b ≠ 0) : a ≠ 0 ∨ b ≠ 0 := by
  rw [sumC_eq] at h
  by_cases ha : a = 0
  · refine .inr (fun hb => h ?_)
    subst ha; subst hb; decide
  · exact .inl ha
theorem normN_ne2 {a b : List ByteArray} (h : a ≠ [] ∨ b ≠ []) : normN (a ++ b) ≠ [] := fun e => by
  have : ∀ x, x ∉ a ++ b := fun x hx => by
    have := mem_norm.2 hx
    rw [e] at this; cases this
  rcases h with h | h
  · cases a with
    | nil => exact h rfl
    | cons x a => exact this x (by simp)
  · cases b with
    | nil => exact h rfl
    | cons x b => exact this x (by simp)
theorem joinE_rc {a b : Ef} (ha : a.rc) (hb : b.rc) : (joinE a b).rc := fun h => by
  rcases sumC_ne h with g | g
  · exact normN_ne2 (.inl (ha g))
  · exact normN_ne2 (.inr (hb g))
theorem timesE_rc {e : Ef} (n : Int) (h : e.rc) : (timesE e n).rc := by
  unfold timesE
  split
  · exact zeroE_rc
  · rename_i hn
    intro hc
    have hc : (if mostC / n < (joinE e zeroE).calls then mostC else (joinE e zeroE).calls * n) ≠ 0 := hc
    have h0 : (joinE e zeroE).calls ≠ 0 := fun e0 => hc (by
      rw [e0, if_neg]
      · omega
      · have : 0 ≤ mostC / n := Int.ediv_nonneg (by decide) (by omega)
        omega)
    exact joinE_rc h zeroE_rc h0
theorem partE_rc {k num : Int} {a b c : Ef} (ha : a.rc) (hb : b.rc) (hc : c.rc) : (partE k num a b c).rc := by
  unfold partE
  split
  · exact timesE_rc num hb
  · refine joinE_rc ha fun h => ?_
    have h : maxC b.calls c.calls ≠ 0 := h
    have h1 : b.calls ≠ 0 ∨ c.calls ≠ 0 := by
      unfold maxC at h
      split at h
      · exact .inr h
      · exact .inl h
    rcases h1 with g | g
    · exact normN_ne2 (.inl (hb g))
    · exact normN_ne2 (.inr (hc g))
theorem nodeE_rc {ks : List (ByteArray × ByteArray)} {k : Int} {a b : ByteArray} {out : Ef} (h : out.rc) : (nodeE ks k a b out).rc := by
  unfold nodeE
  split
  · exact joinE_rc h (fun _ => by unfold callE; simp)
  · split
    · exact joinE_rc h (fun q => absurd rfl q)
    · exact h
mutual
theorem exprE_rc (ks : List (ByteArray × ByteArray)) : ∀ (e : PE) (w : Int), (exprE ks e w).1.rc
  | .mk k num a b xs ys, w => by
    rw [exprE]
    exact nodeE_rc (exprEs_rc ks ys _ _ (exprEs_rc ks xs _ _ zeroE_rc))
theorem exprEs_rc (ks : List (ByteArray × ByteArray)) : ∀ (l : List PE) (out : Ef) (w : Int), out.rc → (exprEs ks l out w).1.rc
  | [], out, w, h => by rw [exprEs]; exact h
  | e :: l, out, w, h => by rw [exprEs]; exact exprEs_rc ks l _ _ (joinE_rc h (exprE_rc ks e w))
end
mutual
theorem stmtE_rc (ks : List (ByteArray × ByteArray)) : ∀ (s : PS) (w : Int), (stmtE ks s w).1.rc
  | .mk k a num e body els, w => by
    rw [stmtE]
    exact partE_rc (exprE_rc ks e w) (stmtEs_rc ks body _ _ zeroE_rc) (stmtEs_rc ks els _ _ zeroE_rc)
theorem stmtEs_rc (ks : List (ByteArray × ByteArray)) : ∀ (l : List PS) (out : Ef) (w : Int), out.rc → (stmtEs ks l out w).1.rc
  | [], out, w, h => by rw [stmtEs]; exact h
  | e :: l, out, w, h => by rw [stmtEs]; exact stmtEs_rc ks l _ _ (joinE_rc h (stmtE_rc ks e w))
end
theorem ofP_well {p : PP'} (h : WellP p) {o : PO} (ho : o ∈ p.opers) : ofP p o.name = ((stmtEs p.stores o.body zeroE 0).1, 0) := by
  obtain ⟨_, _, _, h4, h5⟩ := checkP_iff.1 h.check
  have h6 := (stmtEs_ty (ks := p.stores) o.body _ _ 1 zeroE (h.opers o ho) (h4 o ho).2.2.2 (zeroE_dc _)).1
  unfold ofP
  rw [if_neg (fun q => q h.check), findP_mem h5 ho]
  dsimp only
  rw [if_neg (fun q => q h6)]
theorem ofP_none {p : PP'} (h : WellP p) {s : ByteArray} (hs : findP p s = none) : ofP p s = (zeroE, 10) := by
  unfold ofP
  rw [if_neg (fun q => q h.check), hs]
theorem planP_well {p : PP'} (h : WellP p) {o : PO} (ho : o ∈ p.opers) : planP p o.name = (planO p o, 0) := by
  unfold planP
  rw [if_neg (fun q => q (wellP_iff.2 h)), ofP_well h ho]
  rfl
theorem planP_none {p : PP'} (h : WellP p) {s : ByteArray} (hs : findP p s = none) : planP p s = (zeroPl, 10) := by
  unfold planP
  rw [if_neg (fun q => q (wellP_iff.2 h)), ofP_none h hs]
  rfl
theorem planP_ill {p : PP'} (h : (tyP p).2 ≠ 0) (s : ByteArray) : planP p s = (zeroPl, (tyP p).2) := by
  unfold planP; rw [if_pos h]
theorem planA_ill {p : PP'} (h : (tyP p).2 ≠ 0) : planA p = ([], (tyP p).2) := by
  unfold planA; rw [if_pos h]
theorem planA_well {p : PP'} (h : WellP p) : planA p = (p.opers.map (planO p), 0) := by
  unfold planA; rw [if_neg (fun q => q (wellP_iff.2 h))]
theorem planA_turn {p : PP'} (h : WellP p) (n : Nat) : planA (turnP p n) = ((p.opers.drop n ++ p.opers.take n).map (planO p), 0) := planA_well (turn_well h n)
theorem planO_law {p : PP'} (h : WellP p) {o : PO} (ho : o ∈ p.opers) : StrS (planO p o).stores ∧ (∀ x ∈ (planO p o).stores, (lookK p.stores x).isSome = true) ∧
    ((planO p o).cls = 0 ↔ (planO p o).stores.length = 0) ∧ ((planO p o).calls = 0 ↔ (planO p o).stores.length = 0) := by
  obtain ⟨_, _, _, h4, h5⟩ := checkP_iff.1 h.check
  have h6 := (stmtEs_ty (ks := p.stores) o.body _ _ 1 zeroE (h.opers o ho) (h4 o ho).2.2.2 (zeroE_dc _)).2
  have h7 := stmtEs_nm p.stores o.body zeroE 0 zeroE_nm
  have h8 := stmtEs_ok p.stores o.body zeroE 0 zeroE_ok
  have h9 := stmtEs_rc p.stores o.body zeroE 0 zeroE_rc
  unfold planO planE
  dsimp only
  revert h6 h7 h8 h9
  generalize (stmtEs p.stores o.body zeroE 0).1 = E
  intro h6 h7 h8 h9
  refine ⟨?_, h6, ?_, ?_⟩
  · have : normN (E.reads ++ []) = E.reads := congrArg Ef.reads h7
    rw [← this]
    exact normN_str _
  · unfold clsN
    split
    · rename_i h; simp [h]
    · rename_i h
      split
      · exact ⟨fun q => absurd q (by decide), fun q => absurd q h⟩
      · exact ⟨fun q => absurd q (by decide), fun q => absurd q h⟩
  · constructor
    · intro hc
      by_cases hr : E.reads = []
      · rw [hr]; rfl
      · have := h8.2.2 hr; omega
    · intro hr
      by_cases hc : E.calls = 0
      · exact hc
      · exact absurd (List.length_eq_zero_iff.1 hr) (h9 hc)
end Sim

namespace Sim
open Go Go.Vc
def wordB (c : Int) : ByteArray := if c = 0 then bs [112, 117, 114, 101] else if c = 1 then bs [114, 101, 97, 100, 105, 110, 103] else bs [103, 101, 110, 101, 114, 97, 108]
def numB (n : Int) : ByteArray := ⟨(Lib.itoa n).toArray⟩
def digB (n : Nat) : ByteArray := ⟨(Lib.decDigits n).toArray⟩
def tailB : List ByteArray → ByteArray → ByteArray
  | [], a => a
  | s :: l, a => tailB l (a ++ bs [32] ++ s)
def headB (x : PL) : ByteArray := x.oper ++ bs [32] ++ wordB x.cls ++ bs [32] ++ numB x.calls
def lineB (x : PL) : ByteArray := tailB x.stores (headB x) ++ bs [10]
def textB (l : List PL) : ByteArray := l.foldl (fun a x => a ++ lineB x) (bs [])
theorem textB_take {l : List PL} {j : Nat} {x : PL} (h : l[j]? = some x) : textB (l.take (j + 1)) = textB (l.take j) ++ lineB x := by
  unfold textB
  rw [List.take_add_one, h, List.foldl_append]
  rfl
theorem ba_ext {a b : ByteArray} (h : a.data.toList = b.data.toList) : a = b := WideShapes.bytes_inj h
theorem ba_app (a b : ByteArray) : (a ++ b).data.toList = a.data.toList ++ b.data.toList := by simp [ByteArray.data_append]
theorem bs_toL (l : List UInt8) : (bs l).data.toList = l := rfl
theorem digB_small {n : Nat} (h : n < 10) : digB n = bs [UInt8.ofNat (48 + n)] := by
  unfold digB; rw [Lib.decDigits_one h]; rfl
theorem digB_big {n : Nat} (h : ¬ n < 10) : digB n = digB (n / 10) ++ digB (n % 10) := by
  refine ba_ext ?_
  rw [ba_app]
  unfold digB
  rw [Lib.decDigits_one (Nat.mod_lt n (by decide : 0 < 10)), Lib.decDigits, dif_neg h]
theorem numB_neg {n : Int} (h : n < 0) : numB n = bs [45] ++ digB n.natAbs := by
  refine ba_ext ?_
  rw [ba_app]
  unfold numB Lib.itoa digB
  rw [if_pos h]
  rfl
theorem numB_pos {n : Int} (h : ¬ n < 0) : numB n = digB n.toNat := by
  unfold numB Lib.itoa digB
  rw [if_neg h]
theorem tailB_L : ∀ (l : List ByteArray) (a : ByteArray), (tailB l a).data.toList = a.data.toList ++ Lib.joinTail [32] (l.map (·.data.toList))
  | [], a => by simp [tailB, Lib.joinTail]
  | s :: l, a => by
    rw [tailB, tailB_L l, ba_app, ba_app, bs_toL]
    simp [Lib.joinTail]
theorem join_line (x : PL) : (⟨(Lib.join ((x.oper :: wordB x.cls :: numB x.calls :: x.stores).map (·.data.toList)) [32]).toArray⟩ : ByteArray) = tailB x.stores (headB x) := by
  refine ba_ext ?_
  rw [tailB_L]
  unfold headB
  rw [List.map_cons, Lib.join_cons, ba_app, ba_app, ba_app, ba_app, bs_toL]
  simp [Lib.joinTail]
theorem tailB_next {l : List ByteArray} {j : Nat} {x a : ByteArray} (h : l[j]? = some x) : tailB (l.take (j + 1)) a = tailB (l.take j) a ++ bs [32] ++ x := by
  have key : ∀ (m : List ByteArray) (a : ByteArray), tailB (m ++ [x]) a = tailB m a ++ bs [32] ++ x := by
    intro m
    induction m with
    | nil => intro a; rfl
    | cons y m ih => intro a; exact ih _
  rw [List.take_add_one, h]
  exact key _ _
theorem nDigits_le : ∀ (k n : Nat), n < 10 ^ k → 1 ≤ k → Lib.nDigits n ≤ k
  | 0, n, _, h => absurd h (by decide)
  | k + 1, n, h, _ => by
    by_cases h10 : n < 10
    · rw [Lib.nDigits_small h10]; omega
    · rw [Lib.nDigits_big h10]
      have hk : 1 ≤ k := by
        rcases k with _ | k
        · simp at h; omega
        · omega
      have := nDigits_le k (n / 10) (by rw [Nat.pow_succ] at h; omega) hk
      omega
theorem digB_size (n : Nat) (h : n < 100000000000000000000) : (digB n).size ≤ 20 := by
  show (Lib.decDigits n).toArray.size ≤ 20
  rw [List.size_toArray, Lib.decDigits_length]
  exact nDigits_le 20 n h (by decide)
theorem ba_size (a b : ByteArray) : (a ++ b).size = a.size + b.size := ByteArray.size_append
theorem bs_size (l : List UInt8) : (bs l).size = l.length := rfl
theorem numB_size (n : Int) (h : -9223372036854775808 ≤ n ∧ n ≤ 9223372036854775807) : (numB n).size ≤ 21 := by
  by_cases hn : n < 0
  · rw [numB_neg hn, ba_size]
    have := digB_size n.natAbs (by omega)
    have := bs_size [45]
    simp only [List.length_singleton] at this
    omega
  · rw [numB_pos hn]
    have := digB_size n.toNat (by omega)
    omega
theorem wordB_size (c : Int) : (wordB c).size ≤ 7 := by
  unfold wordB
  split
  · decide
  · split <;> decide
theorem tailB_size : ∀ (l : List ByteArray) (a : ByteArray), (∀ s ∈ l, s.size ≤ 300) → (tailB l a).size ≤ a.size + 301 * l.length
  | [], a, _ => by rw [tailB]; simp
  | s :: l, a, h => by
    rw [tailB]
    have h1 := tailB_size l (a ++ bs [32] ++ s) (fun x hx => h x (.tail _ hx))
    have h2 := h s (.head _)
    rw [ba_size, ba_size, bs_size, List.length_singleton] at h1
    rw [List.length_cons]
    omega
def PL.ok (x : PL) : Prop := x.oper.size ≤ 300 ∧ x.stores.length ≤ 30 ∧ (∀ s ∈ x.stores, s.size ≤ 300) ∧ -9223372036854775808 ≤ x.calls ∧ x.calls ≤ 9223372036854775807
theorem headB_size {x : PL} (h : x.ok) : (headB x).size ≤ 330 := by
  obtain ⟨h1, _, _, h4⟩ := h
  have a1 := numB_size x.calls h4
  have a2 := wordB_size x.cls
  unfold headB
  rw [ba_size, ba_size, ba_size, ba_size, bs_size, List.length_singleton]
  omega
theorem lineB_size {x : PL} (h : x.ok) : 1 ≤ (lineB x).size ∧ (lineB x).size ≤ 10000 := by
  have h1 := headB_size h
  obtain ⟨_, h2, h3, _⟩ := h
  have h5 := tailB_size x.stores (headB x) h3
  unfold lineB
  rw [ba_size, bs_size, List.length_singleton]
  omega
theorem textB_size : ∀ {l : List PL}, (∀ x ∈ l, x.ok) → (textB l).size ≤ 10000 * l.length := by
  intro l h
  have key : ∀ (l : List PL) (a : ByteArray), (∀ x ∈ l, x.ok) → (l.foldl (fun a x => a ++ lineB x) a).size ≤ a.size + 10000 * l.length := by
    intro l
    induction l with
    | nil => intro a _; simp
    | cons x l ih =>
      intro a h
      have h1 := ih (a ++ lineB x) (fun y hy => h y (.tail _ hy))
      have h2 := (lineB_size (h x (.head _))).2
      rw [ba_size] at h1
      rw [List.foldl_cons, List.length_cons]
      omega
  have := key l (bs []) h
  rw [bs_size, List.length_nil] at this
  unfold textB
  omega
end Sim

