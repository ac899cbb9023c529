import Derived.Test.YtijbnjaackhlcaaGreatDoorPart11
import Derived.Test.YtijbnjaackhlcaaGreatDoorPart12
import Derived.Test.YtijbnjaackhlcaaGreatDoorKit
/- Lemmas and walks for the claims of this seat (own work): Yw11. -/
namespace Go.Vc
open Sim
theorem RdOs.take {w0 : World} {sh : Shared} : ∀ {l : List PO} {cl : List (List Value)}, RdOs w0 sh l cl → ∀ k, RdOs w0 sh (l.take k) (cl.take k)
  | [], cl, h, k => by
    have h : cl = [] := h
    subst h
    rw [List.take_nil, List.take_nil]
    exact (rfl : ([] : List (List Value)) = [])
  | o :: l, cl, _, 0 => (rfl : ([] : List (List Value)) = [])
  | o :: l, cl, h, k + 1 => by
    obtain ⟨c, cl', rfl, h1, h2⟩ := h
    exact ⟨c, cl'.take k, rfl, h1, h2.take k⟩
theorem RdOs.drop {w0 : World} {sh : Shared} : ∀ {l : List PO} {cl : List (List Value)}, RdOs w0 sh l cl → ∀ k, RdOs w0 sh (l.drop k) (cl.drop k)
  | [], cl, h, k => by
    have h : cl = [] := h
    subst h
    rw [List.drop_nil, List.drop_nil]
    exact (rfl : ([] : List (List Value)) = [])
  | o :: l, cl, h, 0 => h
  | o :: l, cl, h, k + 1 => by
    obtain ⟨c, cl', rfl, h1, h2⟩ := h
    exact h2.drop k
theorem RdOs.app {w0 : World} {sh : Shared} : ∀ {l m : List PO} {cl dl : List (List Value)}, RdOs w0 sh l cl → RdOs w0 sh m dl → RdOs w0 sh (l ++ m) (cl ++ dl)
  | [], m, cl, dl, h, g => by
    have h : cl = [] := h
    subst h
    exact g
  | o :: l, m, cl, dl, h, g => by
    obtain ⟨c, cl', rfl, h1, h2⟩ := h
    exact ⟨c, cl' ++ dl, rfl, h1, h2.app g⟩
section
variable {P : Program} {w0 : World} {n : Nat} {sh : Shared} {Q : Exit → Env → List Deferred → List Asn → Prop} {k : List Item} {ρ : Env} {df : List Deferred} {Γ : List Asn}
variable {ops : Array Oper} {l : List (Fl × Nat × Oper)} {b : Fl} {i d : Nat} {ty : TypeId} {pos : String} {aft : Array Edge} {x y : Operand} {t : TypeId}
theorem reg_rem64e {m m' r : Int} (hx : ev ρ x = .int .i64 m) (hy : ev ρ y = .int .i64 m') (hb : 0 ≤ m ∧ 0 < m') (he : m % m' = r) (h : Reg P w0 n sh Q ops l k (ρ.set d (.int .i64 r)) df Γ) :
    Reg P w0 n sh Q ops ((b, i, ⟨some d, .binOp .rem t x y t, ty, pos, aft, none⟩) :: l) k ρ df Γ := by
  subst he
  exact zay hx hy hb h
end
end Go.Vc
namespace Go.Proofs.YtijbnjaackhlcaaGreatDoor
open Go.Vc Sim
theorem vars_ok (w0 : World) (hk : KwOk w0) (sh : Shared) (v : Value) (p : PP') (n : ByteArray) (T : TV × Int) (hp : RdP w0 sh v p) (hs : PP'.small p) (hb : ∀ o ∈ p.opers, PS.sizeL o.body ≤ 10000) (hT : tyV p n = T) (h0 : T.2 = 0) :
    Vc.Fn PP w0 sh 12 [v, .string n] [] (fun r Γ => ∃ ma, r = .tuple #[.map (some ma), .int .i64 0] ∧ Γ = [MapB ma (tvS T.1)]) := by
  subst hT
  exact (typesVars_spec w0 hk sh v p n hp hs hb).mono fun r Γ h => h.1 h0
theorem vars_none (w0 : World) (hk : KwOk w0) (sh : Shared) (v : Value) (p : PP') (n : ByteArray) (hp : RdP w0 sh v p) (hs : PP'.small p) (hb : ∀ o ∈ p.opers, PS.sizeL o.body ≤ 10000) (hT : tyV p n = ([], 10)) :
    FnE PP w0 sh 12 [v, .string n] [] (.tuple #[.map none, .int .i64 10]) [] := by
  refine (typesVars_spec w0 hk sh v p n hp hs hb).mono fun r Γ h => ?_
  have h2 := h.2
  rw [hT] at h2
  exact h2 (by decide)
theorem small_sub {p : PP'} {l : List PO} (h : PP'.small p) (hb : ∀ o ∈ p.opers, PS.sizeL o.body ≤ 400) (hl : l.length ≤ p.opers.length) (hs : ∀ o ∈ l, o ∈ p.opers) : PP'.small ⟨p.stores, l⟩ ∧ ∀ o ∈ (⟨p.stores, l⟩ : PP').opers, PS.sizeL o.body ≤ 10000 :=
  ⟨⟨h.1, Nat.le_trans hl h.2.1, fun o ho => h.2.2 o (hs o ho)⟩, fun o ho => Nat.le_trans (hb o (hs o ho)) (by omega)⟩
set_option maxHeartbeats 16000000 in
theorem typesPartsLaw_spec (w0 : World) (hk : KwOk w0) (v : Value) (p : PP') (h8 k8 : Nat) (hp : RdP w0 [] v p) (hz : p.sz) (hh8 : h8 ≤ 255) (hk8 : k8 ≤ 255) :
    FnE PP w0 [] 3 [v, .int .u8 (h8 : Int), .int .u8 (k8 : Int)] [] (.bool true) [] := by
  have haw := awake_spec w0 hk
  have hgr := greatP_spec w0 [] v p hp hz
  have hp0 := hp
  obtain ⟨vs, vo, rfl, h1, h2⟩ := hp
  obtain ⟨a1, c1, hvs, hc1, _⟩ := id h1
  obtain ⟨a2, c2, hvo, hc2⟩ := h2.len
  subst hvs; subst hvo
  refine fn_of_run en3 fn3 rfl rfl rfl ?_
  repeat (first | refine zck ?_ | refine zcl ?_ | refine zcm ?_ | refine zcn ?_)
  first | refine zcp (by kernel_rfl) ?_ | refine zcq PP_mixed (by kernel_rfl) (by kernel_rfl) ?_
  repeat' (refine zap rfl ?_; first | refine zaq (cs := [_, _]) rfl (fun tp => ?_) | refine zan rfl ?_)
  all_goals refine zch ?_
  all_goals repeat (first | refine zck ?_ | refine zcl ?_ | refine zcm ?_ | refine zcn ?_)
  refine run_share [0] rfl ?_
  by_cases hn : p.opers.length = 0
  · repeat (first | refine zck ?_ | refine zcl ?_ | refine zcm ?_ | refine zcn ?_)
    first | refine zcp (by kernel_rfl) ?_ | refine zcq PP_mixed (by kernel_rfl) (by kernel_rfl) ?_
    repeat' (refine zap rfl ?_; first | refine zaa 0 rfl rfl rfl ?_ | refine zaj rfl ?_ | refine zak rfl ?_ | refine zan rfl ?_ | (refine zai [] hgr rfl rfl rfl sub_nil ?_; rintro v Γ ⟨rfl, B, rfl, hB⟩; cases B) | refine zce rfl ?_ | refine zao rfl ?_ | refine zbc rfl rfl (by omega) ?_ | refine zbu rfl ?_ | refine zbv rfl ?_)
    all_goals refine zch ?_
    all_goals repeat (first | refine zck ?_ | refine zcl ?_ | refine zcm ?_ | refine zcn ?_)
    all_goals
      repeat' (first | refine zck ?_ | refine zcp (by kernel_rfl) ?_ | (refine zap rfl ?_; first | refine zan rfl ?_ | refine zah [] haw rfl rfl rfl sub_nil rfl ?_) | refine zch ?_ | refine zci rfl ?_)
      exact ret_tmp1 rfl ⟨rfl, rfl⟩
  repeat (first | refine zck ?_ | refine zcl ?_ | refine zcm ?_ | refine zcn ?_)
  first | refine zcp (by kernel_rfl) ?_ | refine zcq PP_mixed (by kernel_rfl) (by kernel_rfl) ?_
  repeat' (refine zap rfl ?_; first | refine zaa 0 rfl rfl rfl ?_ | refine zaj rfl ?_ | refine zak rfl ?_ | refine zan rfl ?_ | (refine zai [] hgr rfl rfl rfl sub_nil ?_; rintro v Γ ⟨rfl, B, rfl, hB⟩; cases B) | refine zce rfl ?_ | refine zao rfl ?_ | refine zbd rfl rfl (by omega) ?_ | refine zbu rfl ?_ | refine zbv rfl ?_)
  all_goals refine zch ?_
  all_goals repeat (first | refine zck ?_ | refine zcl ?_ | refine zcm ?_ | refine zcn ?_)
  rotate_left
  · repeat' (first | refine zck ?_ | refine zcp (by kernel_rfl) ?_ | (refine zap rfl ?_; first | refine zan rfl ?_ | refine zah [] haw rfl rfl rfl sub_nil rfl ?_) | refine zch ?_ | refine zci rfl ?_)
    exact ret_tmp1 rfl ⟨rfl, rfl⟩
  refine zcj rfl ?_
  have hcost := hB rfl
  obtain ⟨sm1, sm2⟩ := small_of hcost
  have hty := typesCheck_spec w0 hk [] _ p hp0 sm1 (fun x hx => Nat.le_trans (sm2 x hx) (by omega))
  obtain ⟨cl, hcl, hos⟩ := id h2
  have hcn := hos.len
  have n0 : 0 < p.opers.length := by omega
  have n400 : p.opers.length ≤ 400 := by have := PO.costL_len p.opers; omega
  repeat (first | refine zck ?_ | refine zcl ?_ | refine zcm ?_ | refine zcn ?_)
  first | refine zcp (by kernel_rfl) ?_ | refine zcq PP_mixed (by kernel_rfl) (by kernel_rfl) ?_
  repeat' (refine zap rfl ?_; first | refine zaa 0 rfl rfl rfl ?_ | refine zan rfl ?_ | refine zan rfl ?_ | refine zah [] hty rfl rfl rfl sub_nil rfl ?_ | refine zan rfl ?_)
  all_goals refine zch ?_
  all_goals repeat (first | refine zck ?_ | refine zcl ?_ | refine zcm ?_ | refine zcn ?_)
  by_cases hC : (tyP p).2 = 0
  rotate_left
  · repeat (first | refine zck ?_ | refine zcl ?_ | refine zcm ?_ | refine zcn ?_)
    first | refine zcp (by kernel_rfl) ?_ | refine zcq PP_mixed (by kernel_rfl) (by kernel_rfl) ?_
    repeat' (refine zap rfl ?_; first | refine zan rfl ?_ | refine zbe rfl rfl (by omega) ?_)
    all_goals refine zch ?_
    all_goals repeat (first | refine zck ?_ | refine zcl ?_ | refine zcm ?_ | refine zcn ?_)
    refine zci rfl ?_
    repeat' (first | refine zck ?_ | refine zcp (by kernel_rfl) ?_ | (refine zap rfl ?_; first | refine zan rfl ?_ | refine zah [] haw rfl rfl rfl sub_nil rfl ?_) | refine zch ?_)
    exact ret_tmp1 rfl ⟨rfl, rfl⟩
  have hWp := wellP_iff.1 hC
  repeat (first | refine zck ?_ | refine zcl ?_ | refine zcm ?_ | refine zcn ?_)
  first | refine zcp (by kernel_rfl) ?_ | refine zcq PP_mixed (by kernel_rfl) (by kernel_rfl) ?_
  repeat' (refine zap rfl ?_; first | refine zan rfl ?_ | refine zbf rfl rfl (by omega) ?_)
  all_goals refine zch ?_
  all_goals repeat (first | refine zck ?_ | refine zcl ?_ | refine zcm ?_ | refine zcn ?_)
  refine zcj rfl ?_
  obtain ⟨kI, hkI⟩ : ∃ kI, kI = h8 % p.opers.length := ⟨_, rfl⟩
  obtain ⟨nI, hnI⟩ : ∃ nI, nI = k8 % p.opers.length := ⟨_, rfl⟩
  have hkl : kI < p.opers.length := by rw [hkI]; exact Nat.mod_lt _ n0
  have hnl : nI < p.opers.length := by rw [hnI]; exact Nat.mod_lt _ n0
  have hkm : (h8 : Int) % (p.opers.length : Int) = (kI : Int) := by rw [hkI]; rfl
  have hnm : (k8 : Int) % (p.opers.length : Int) = (nI : Int) := by rw [hnI]; rfl
  clear hkI hnI
  have hcl' : RdSl w0 [] (fun x : List Value => x) 3 (.slice a2 cl.length c2) cl := by rw [hcn]; exact hcl
  have rA1 := hcl'.head (q := kI) (by omega)
  have rA2 := hcl'.tail (q := kI + 1) (by omega)
  have rB1 := hcl'.tail (q := nI) (by omega)
  have rB2 := hcl'.head (q := nI) (by omega)
  rw [hcn] at rA2 rB1
  obtain ⟨oA1, _⟩ := (hos.take kI).flat
  obtain ⟨oA2, _⟩ := (hos.drop (kI + 1)).flat
  obtain ⟨oB1, _⟩ := (hos.drop nI).flat
  obtain ⟨oB2, _⟩ := (hos.take nI).flat
  have hosA : RdOs w0 [] (lessP p kI).opers (cl.take kI ++ cl.drop (kI + 1)) := (hos.take kI).app (hos.drop (kI + 1))
  have hosB : RdOs w0 [] (turnP p nI).opers (cl.drop nI ++ cl.take nI) := (hos.drop nI).app (hos.take nI)
  obtain ⟨_, h3A⟩ := hosA.flat
  obtain ⟨_, h3B⟩ := hosB.flat
  have tA1 : (cl.take kI).length ≤ 400 := by rw [List.length_take]; omega
  have tA2 : (cl.drop (kI + 1)).length ≤ 400 := by rw [List.length_drop]; omega
  have tB1 : (cl.drop nI).length ≤ 400 := by rw [List.length_drop]; omega
  have tB2 : (cl.take nI).length ≤ 400 := by rw [List.length_take]; omega
  repeat (first | refine zck ?_ | refine zcl ?_ | refine zcm ?_ | refine zcn ?_)
  first | refine zcp (by kernel_rfl) ?_ | refine zcq PP_mixed (by kernel_rfl) (by kernel_rfl) ?_
  repeat' (refine zap rfl ?_; first | refine zaa 0 rfl rfl rfl ?_ | refine reg_rem64e (r := (kI : Int)) rfl rfl (by omega) hkm ?_ | refine reg_rem64e (r := (nI : Int)) rfl rfl (by omega) hnm ?_ | refine zan rfl ?_ | refine zan rfl ?_ | refine zce rfl ?_ | refine zao rfl ?_ | refine zbz rfl (by omega) ?_)
  all_goals refine zch ?_
  all_goals repeat (first | refine zck ?_ | refine zcl ?_ | refine zcm ?_ | refine zcn ?_)
  repeat (first | refine zck ?_ | refine zcl ?_ | refine zcm ?_ | refine zcn ?_)
  first | refine zcp (by kernel_rfl) ?_ | refine zcq PP_mixed (by kernel_rfl) (by kernel_rfl) ?_
  repeat' (refine zap rfl ?_; first | refine zaa 0 rfl rfl rfl ?_ | refine zar (fun t12 => ?_) | refine zae 0 rfl rfl rfl rfl rfl rfl rfl ?_ | refine zae 1 rfl rfl rfl rfl rfl rfl rfl ?_)
  all_goals refine zch ?_
  all_goals repeat (first | refine zck ?_ | refine zcl ?_ | refine zcm ?_ | refine zcn ?_)
  rename_i t11
  repeat (first | refine zck ?_ | refine zcl ?_ | refine zcm ?_ | refine zcn ?_)
  first | refine zcp (by kernel_rfl) ?_ | refine zcq PP_mixed (by kernel_rfl) (by kernel_rfl) ?_
  repeat' (refine zap rfl ?_; first | refine zaa 0 rfl rfl rfl ?_ | refine reg_buildSlice rfl rfl rfl rfl rfl rfl (fun nb => ?_) | refine reg_slice2 (sz := 3) rfl rfl (by omega) ?_ | refine reg_sliceT (sz := 3) rfl rfl ⟨by omega, by omega⟩ ?_ | refine zae 0 rfl rfl rfl rfl rfl rfl rfl ?_ | refine zan rfl ?_ | (refine reg_own 2 rfl rfl (len := 0) (cap := 0) (sz := 3) ⟨rfl, Nat.le_refl _, Nat.le_refl _⟩ rfl ?_; refine reg_append_rdE 2 rfl rfl (rA1.mono sub_nil) (by decide) oA1 rfl rfl (by omega) (fun _ _ => rfl) (fun a5 c5 => ?_)) | refine reg_append_rdE 2 rfl rfl (rA2.mono sub_nil) (by decide) oA2 rfl rfl (by omega) (fun _ _ => rfl) (fun a6 c6 => ?_) | refine zao rfl ?_ | refine zau rfl rfl (by omega) ?_)
  all_goals refine zch ?_
  all_goals repeat (first | refine zck ?_ | refine zcl ?_ | refine zcm ?_ | refine zcn ?_)
  obtain ⟨nA, hnA⟩ : ∃ nA, nA = 0 + (cl.take kI).length + (cl.drop (kI + 1)).length := ⟨_, rfl⟩
  refine run_slR (fun x : List Value => x) 2 (l := cl.take kI ++ cl.drop (kI + 1)) rfl (by rw [List.flatMap_append]; rfl) h3A (by rw [List.length_append, Nat.zero_add]) rfl ?_
  refine run_shareB [2] rfl (fun zA hzA => ?_)
  refine run_exch 0 (pt t11 (.cells (List.toArray [.slice a1 p.stores.length c1, .slice a6 nA c6]) 25 (0, 0))) rfl (fun g hg => by rw [hnA]; exact hg) rfl ?_
  refine run_share [0] rfl ?_
  repeat (first | refine zck ?_ | refine zcl ?_ | refine zcm ?_ | refine zcn ?_ | refine zco ?_)
  repeat (first | refine zck ?_ | refine zcl ?_ | refine zcm ?_ | refine zcn ?_)
  first | refine zcp (by kernel_rfl) ?_ | refine zcq PP_mixed (by kernel_rfl) (by kernel_rfl) ?_
  repeat' (refine zap rfl ?_; first | refine zaa 1 rfl rfl rfl ?_ | refine reg_buildSlice rfl rfl rfl rfl rfl rfl (fun nb => ?_) | refine reg_slice2 (sz := 3) rfl rfl (by omega) ?_ | refine reg_sliceT (sz := 3) rfl rfl ⟨by omega, by omega⟩ ?_ | refine zae 0 rfl rfl rfl rfl rfl rfl rfl ?_ | refine zan rfl ?_ | (refine reg_own 1 rfl rfl (len := 0) (cap := 0) (sz := 3) ⟨rfl, Nat.le_refl _, Nat.le_refl _⟩ rfl ?_; refine reg_append_rdE 1 rfl rfl (rB1.mono sub_nil) (by decide) oB1 rfl rfl (by omega) (fun _ _ => rfl) (fun a7 c7 => ?_)) | refine reg_append_rdE 1 rfl rfl (rB2.mono sub_nil) (by decide) oB2 rfl rfl (by omega) (fun _ _ => rfl) (fun a8 c8 => ?_) | refine zao rfl ?_)
  all_goals refine zch ?_
  all_goals repeat (first | refine zck ?_ | refine zcl ?_ | refine zcm ?_ | refine zcn ?_)
  obtain ⟨nB, hnB⟩ : ∃ nB, nB = 0 + (cl.drop nI).length + (cl.take nI).length := ⟨_, rfl⟩
  refine run_slR (fun x : List Value => x) 1 (l := cl.drop nI ++ cl.take nI) rfl (by rw [List.flatMap_append]; rfl) h3B (by rw [List.length_append, Nat.zero_add]) rfl ?_
  refine run_shareB [1] rfl (fun zB hzB => ?_)
  refine run_exch 0 (pt t12 (.cells (List.toArray [.slice a1 p.stores.length c1, .slice a8 nB c8]) 25 (0, 0))) rfl (fun g hg => by rw [hnB]; exact hg) rfl ?_
  refine run_share [0] rfl ?_
  repeat (first | refine zck ?_ | refine zcl ?_ | refine zcm ?_ | refine zcn ?_ | refine zco ?_)
  rw [← hnA] at hzA
  rw [← hnB] at hzB
  have hPl : RdP w0 zA (.agg #[.slice a1 p.stores.length c1, .slice a6 nA c6]) (lessP p kI) := ⟨_, _, rfl, h1.mono sub_nil, _, hzA, hosA.mono sub_nil⟩
  have hPt : RdP w0 zB (.agg #[.slice a1 p.stores.length c1, .slice a8 nB c8]) (turnP p nI) := ⟨_, _, rfl, h1.mono sub_nil, _, hzB, hosB.mono sub_nil⟩
  obtain ⟨u1, u2⟩ := small_sub (l := (lessP p kI).opers) sm1 sm2 (less_sub p.opers kI).length_le (fun o ho => (less_sub p.opers kI).subset ho)
  obtain ⟨w1, w2⟩ := small_sub (l := (turnP p nI).opers) sm1 sm2 (Nat.le_of_eq (turn_perm p.opers nI).length_eq) (fun o ho => (turn_perm p.opers nI).mem_iff.1 ho)
  have hWl := less_well hWp kI
  have hWt := turn_well hWp nI
  have kl := typesCheck_spec w0 hk zA _ _ hPl u1 u2
  have kt := typesCheck_spec w0 hk zB _ _ hPt w1 w2
  obtain ⟨⟨l1, l2⟩, hTl⟩ : ∃ T, tyP (lessP p kI) = T := ⟨_, rfl⟩
  obtain ⟨⟨r1, r2⟩, hTt⟩ : ∃ T, tyP (turnP p nI) = T := ⟨_, rfl⟩
  have e1 := wellP_iff.2 hWl
  have e2 := wellP_iff.2 hWt
  rw [hTl] at e1 kl
  rw [hTt] at e2 kt
  have e1 : l2 = 0 := e1
  have e2 : r2 = 0 := e2
  subst e1; subst e2
  repeat (first | refine zck ?_ | refine zcl ?_ | refine zcm ?_ | refine zcn ?_)
  first | refine zcp (by kernel_rfl) ?_ | refine zcq PP_mixed (by kernel_rfl) (by kernel_rfl) ?_
  repeat' (refine zap rfl ?_; first | refine zaa 1 rfl rfl rfl ?_ | refine zan rfl ?_ | refine zan rfl ?_ | refine zah [] kl rfl rfl rfl (fun p hp => by simp [hp]) rfl ?_ | refine zce rfl ?_ | refine zan rfl ?_)
  all_goals refine zch ?_
  all_goals repeat (first | refine zck ?_ | refine zcl ?_ | refine zcm ?_ | refine zcn ?_)
  repeat (first | refine zck ?_ | refine zcl ?_ | refine zcm ?_ | refine zcn ?_)
  first | refine zcp (by kernel_rfl) ?_ | refine zcq PP_mixed (by kernel_rfl) (by kernel_rfl) ?_
  repeat' (refine zap rfl ?_; first | refine zaa 0 rfl rfl rfl ?_ | refine zan rfl ?_ | refine zan rfl ?_ | refine zah [] kt rfl rfl rfl (fun p hp => by simp [hp]) rfl ?_ | refine zce rfl ?_ | refine zan rfl ?_)
  all_goals refine zch ?_
  all_goals repeat (first | refine zck ?_ | refine zcl ?_ | refine zcm ?_ | refine zcn ?_)
  repeat (first | refine zck ?_ | refine zcl ?_ | refine zcm ?_ | refine zcn ?_)
  first | refine zcp (by kernel_rfl) ?_ | refine zcq PP_mixed (by kernel_rfl) (by kernel_rfl) ?_
  repeat' (refine zap rfl ?_; first | refine zaj rfl ?_ | refine zan rfl ?_ | refine zbf rfl rfl (by omega) ?_ | refine zbv rfl ?_)
  all_goals refine zch ?_
  all_goals repeat (first | refine zck ?_ | refine zcl ?_ | refine zcm ?_ | refine zcn ?_)
  refine zcj rfl ?_
  repeat (first | refine zck ?_ | refine zcl ?_ | refine zcm ?_ | refine zcn ?_)
  first | refine zcp (by kernel_rfl) ?_ | refine zcq PP_mixed (by kernel_rfl) (by kernel_rfl) ?_
  repeat' (refine zap rfl ?_; first | refine zaa 1 rfl rfl rfl ?_ | refine zan rfl ?_ | refine zce rfl ?_ | refine zao rfl ?_)
  all_goals refine zch ?_
  all_goals repeat (first | refine zck ?_ | refine zcl ?_ | refine zcm ?_ | refine zcn ?_)
  have hAl := hosA.len
  rw [List.length_append] at hAl
  refine run_loop (S := Nat) (fun s => [(3, .pointer (some ⟨tp, 0, none⟩)), (9, .int .i64 (kI : Int)), (11, .pointer (some ⟨t11, 0, none⟩)), (12, .pointer (some ⟨t12, 0, none⟩)), (102, .slice a6 nA c6), (103, .int .i64 (nA : Int)), (104, .int .i64 (s : Int))])
    (fun s Γ => Γ = [] ∧ s ≤ nA) (fun s => nA - s) 0 ⟨rfl, rfl, rfl, rfl, rfl, rfl, rfl, trivial⟩ ⟨rfl, Nat.zero_le _⟩ ?_
  rintro j Γ junk ⟨rfl, q1⟩
  try dsimp only at q1 ⊢
  by_cases hj : j < nA
  · obtain ⟨x, hx⟩ : ∃ x, (lessP p kI).opers[j]? = some x := ⟨_, List.getElem?_eq_getElem (by omega)⟩
    obtain ⟨c0, hc0, vp, vb, rfl, hpar, hbody⟩ := hosA.at hx
    obtain ⟨b, off, cc, Tc, fr, rfl, f2, f3, _⟩ := hzA.cells hc0
    obtain ⟨ap, cp, rfl, _⟩ := id hpar
    obtain ⟨ab, cb, rfl, _⟩ := hbody.len
    have hxm := List.mem_iff_getElem?.2 ⟨_, hx⟩
    have hxp := (less_sub p.opers kI).subset hxm
    have hxo := hWp.opers x hxp
    have hnd := tyO_nodup hWp hxp
    have va := vars_ok w0 hk [] _ p x.name _ hp0 sm1 (fun x hx => Nat.le_trans (sm2 x hx) (by omega)) (same_V hWp hxm) hxo
    have vb := vars_ok w0 hk zA _ _ x.name _ hPl u1 u2 (less_V hWp hxm) hxo
    have vc := vars_ok w0 hk zB _ _ x.name _ hPt w1 w2 (turn_V (n := nI) hWp hxm) hxo
    generalize tyO p x = TV at *
    obtain ⟨V, zV⟩ := TV
    dsimp only at hxo hnd va vb vc
    repeat (first | refine zck ?_ | refine zcl ?_ | refine zcm ?_ | refine zcn ?_)
    first | refine zcp (by kernel_rfl) ?_ | refine zcq PP_mixed (by kernel_rfl) (by kernel_rfl) ?_
    repeat' (refine zap rfl ?_; first | refine zbg rfl rfl (by omega) ?_)
    all_goals refine zch ?_
    all_goals repeat (first | refine zck ?_ | refine zcl ?_ | refine zcm ?_ | refine zcn ?_)
    refine zci rfl ?_
    repeat (first | refine zck ?_ | refine zcl ?_ | refine zcm ?_ | refine zcn ?_)
    first | refine zcp (by kernel_rfl) ?_ | refine zcq PP_mixed (by kernel_rfl) (by kernel_rfl) ?_
    repeat' (refine zap rfl ?_; first | refine zad rfl (fun hF Γ w h1 h2 => f2 hF Γ w (fun p hp => h1 p (by simp [hp])) h2) (f3 _ (by omega)) ?_ | refine zar (fun t18 => ?_) | refine zae 0 rfl rfl rfl rfl rfl rfl rfl ?_ | refine zas rfl rfl (by omega) ?_)
    all_goals refine zch ?_
    all_goals repeat (first | refine zck ?_ | refine zcl ?_ | refine zcm ?_ | refine zcn ?_)
    refine run_share [0] rfl ?_
    repeat (first | refine zck ?_ | refine zcl ?_ | refine zcm ?_ | refine zcn ?_)
    first | refine zcp (by kernel_rfl) ?_ | refine zcq PP_mixed (by kernel_rfl) (by kernel_rfl) ?_
    repeat' (refine zap rfl ?_; first | refine zaa 0 rfl rfl rfl ?_ | refine zaa 3 rfl rfl rfl ?_ | refine zan rfl ?_ | refine zan rfl ?_ | (refine zai [] va rfl rfl rfl sub_nil ?_; rintro v Γ ⟨ma, rfl, rfl⟩) | refine zao rfl ?_ | refine zan rfl ?_)
    all_goals refine zch ?_
    all_goals repeat (first | refine zck ?_ | refine zcl ?_ | refine zcm ?_ | refine zcn ?_)
    repeat (first | refine zck ?_ | refine zcl ?_ | refine zcm ?_ | refine zcn ?_)
    first | refine zcp (by kernel_rfl) ?_ | refine zcq PP_mixed (by kernel_rfl) (by kernel_rfl) ?_
    repeat' (refine zap rfl ?_; first | refine zaa 0 rfl rfl rfl ?_ | refine zaa 2 rfl rfl rfl ?_ | refine zan rfl ?_ | refine zan rfl ?_ | (refine zai [] vb rfl rfl rfl (fun p hp => by simp [hp]) ?_; rintro v Γ ⟨mb, rfl, rfl⟩) | refine zce rfl ?_ | refine zao rfl ?_ | refine zan rfl ?_)
    all_goals refine zch ?_
    all_goals repeat (first | refine zck ?_ | refine zcl ?_ | refine zcm ?_ | refine zcn ?_)
    repeat (first | refine zck ?_ | refine zcl ?_ | refine zcm ?_ | refine zcn ?_)
    first | refine zcp (by kernel_rfl) ?_ | refine zcq PP_mixed (by kernel_rfl) (by kernel_rfl) ?_
    repeat' (refine zap rfl ?_; first | refine zaa 0 rfl rfl rfl ?_ | refine zaa 1 rfl rfl rfl ?_ | refine zan rfl ?_ | refine zan rfl ?_ | (refine zai [] vc rfl rfl rfl (fun p hp => by simp [hp]) ?_; rintro v Γ ⟨mc, rfl, rfl⟩) | refine zce rfl ?_ | refine zao rfl ?_ | refine zan rfl ?_)
    all_goals refine zch ?_
    all_goals repeat (first | refine zck ?_ | refine zcl ?_ | refine zcm ?_ | refine zcn ?_)
    refine run_shareX [2] rfl (fun sh1 es clock s1 X => ?_)
    refine run_shareMB [0] rfl (fun sh2 s2 rc => ?_)
    refine run_shareMB [0] rfl (fun sh3 s3 rb => ?_)
    repeat (first | refine zck ?_ | refine zcl ?_ | refine zcm ?_ | refine zcn ?_ | refine zco ?_)
    have X := (X.mono s2).mono s3
    have rc := rc.mono s3
    repeat (first | refine zck ?_ | refine zcl ?_ | refine zcm ?_ | refine zcn ?_)
    first | refine zcp (by kernel_rfl) ?_ | refine zcq PP_mixed (by kernel_rfl) (by kernel_rfl) ?_
    repeat' (refine zap rfl ?_; first | refine zaj rfl ?_ | refine zan rfl ?_ | refine reg_len_mapR X.rd rfl ?_ | refine reg_len_mapR rb rfl ?_ | refine reg_len_mapR rc rfl ?_ | refine zbf rfl rfl (by omega) ?_ | refine zbv rfl ?_)
    all_goals refine zch ?_
    all_goals repeat (first | refine zck ?_ | refine zcl ?_ | refine zcm ?_ | refine zcn ?_)
    refine zcj rfl ?_
    repeat (first | refine zck ?_ | refine zcl ?_ | refine zcm ?_ | refine zcn ?_)
    first | refine zcp (by kernel_rfl) ?_ | refine zcq PP_mixed (by kernel_rfl) (by kernel_rfl) ?_
    repeat' (refine zap rfl ?_; first | refine reg_rangeX X rfl (fun it => ?_) | refine zan rfl ?_)
    all_goals refine zch ?_
    all_goals repeat (first | refine zck ?_ | refine zcl ?_ | refine zcm ?_ | refine zcn ?_)
    refine run_loop (S := List Nat) (fun s => [(3, .pointer (some ⟨tp, 0, none⟩)), (9, .int .i64 (kI : Int)), (11, .pointer (some ⟨t11, 0, none⟩)), (12, .pointer (some ⟨t12, 0, none⟩)), (21, .map (some mb)), (23, .map (some mc)), (102, .slice (some ⟨b, off, none⟩) nA c6), (103, .int .i64 (nA : Int)), (104, .int .i64 (j : Int)), (154, .pointer (some ⟨it, 0, none⟩))])
      (fun s Γ => Γ = [pt it (iterS ma clock s)]) (fun s => leftS es s) [] ⟨rfl, rfl, rfl, rfl, rfl, rfl, rfl, rfl, rfl, rfl, trivial⟩ rfl ?_
    rintro seen Γ junk2 rfl
    try dsimp only
    repeat (first | refine zck ?_ | refine zcl ?_ | refine zcm ?_ | refine zcn ?_)
    first | refine zcp (by kernel_rfl) ?_ | refine zcq PP_mixed (by kernel_rfl) (by kernel_rfl) ?_
    repeat' (refine zap rfl ?_; first | refine reg_nextX 0 X rfl rfl (fun q => rfl) (fun _ => ?_) (fun e pe he hs hpe k1 k2 => ?_) | refine zan rfl ?_)
    all_goals refine zch ?_
    all_goals repeat (first | refine zck ?_ | refine zcl ?_ | refine zcm ?_ | refine zcn ?_)
    · refine zcj rfl ?_
      refine cut_exit rfl rfl ?_
      refine run_take [] rfl ?_
      repeat (first | refine zck ?_ | refine zcl ?_ | refine zcm ?_ | refine zcn ?_ | refine zco ?_)
      repeat' (first | refine zcp (by kernel_rfl) ?_ | (refine zap rfl ?_; first | refine zan rfl ?_ | refine zau rfl rfl (by omega) ?_) | refine zch ?_)
      exact cut_end ⟨rfl, j + 1, ⟨rfl, rfl, rfl, rfl, rfl, rfl, int_eq (by omega), trivial⟩, ⟨rfl, by omega⟩, by omega⟩
    · refine zci rfl ?_
      obtain ⟨u, hu, rfl⟩ := List.mem_map.1 hpe
      have hlk : lookS (tvS V) u.1 = some (.int .i64 u.2) := by rw [lookV_S, lookV_mem hnd hu]; rfl
      repeat (first | refine zck ?_ | refine zcl ?_ | refine zcm ?_ | refine zcn ?_)
      first | refine zcp (by kernel_rfl) ?_ | refine zcq PP_mixed (by kernel_rfl) (by kernel_rfl) ?_
      repeat' (refine zap rfl ?_; first | refine reg_entryX 0 X he k1 k2 rfl rfl ?_ | refine zan rfl ?_ | refine zan rfl ?_)
      all_goals refine zch ?_
      all_goals repeat (first | refine zck ?_ | refine zcl ?_ | refine zcm ?_ | refine zcn ?_)
      repeat (first | refine zck ?_ | refine zcl ?_ | refine zcm ?_ | refine zcn ?_)
      first | refine zcp (by kernel_rfl) ?_ | refine zcq PP_mixed (by kernel_rfl) (by kernel_rfl) ?_
      repeat' (refine zap rfl ?_; first | refine reg_lookupR (a := u.1) (v := .int .i64 u.2) rb rfl rfl (by rw [hlk]; rfl) ?_ | refine reg_lookupR (a := u.1) (v := .int .i64 u.2) rc rfl rfl (by rw [hlk]; rfl) ?_ | refine zaj rfl ?_ | refine zan rfl ?_ | refine zbf rfl rfl (by omega) ?_ | refine zbv rfl ?_)
      all_goals refine zch ?_
      all_goals repeat (first | refine zck ?_ | refine zcl ?_ | refine zcm ?_ | refine zcn ?_)
      refine zcj rfl ?_
      repeat' (first | refine zcm ?_ | refine zcn ?_ | (refine zap rfl ?_; first | refine zaj rfl ?_ | refine zak rfl ?_ | refine zal rfl ?_ | refine zam rfl rfl (fun _ => ?_) (fun _ => ?_)) | refine zch ?_)
      exact cut_end ⟨rfl, seen ++ [e.born], ⟨rfl, rfl, rfl, rfl, rfl, rfl, rfl, rfl, rfl, rfl, trivial⟩, rfl, leftS_next he hs⟩
  repeat (first | refine zck ?_ | refine zcl ?_ | refine zcm ?_ | refine zcn ?_)
  first | refine zcp (by kernel_rfl) ?_ | refine zcq PP_mixed (by kernel_rfl) (by kernel_rfl) ?_
  repeat' (refine zap rfl ?_; first | refine zbh rfl rfl (by omega) ?_)
  all_goals refine zch ?_
  all_goals repeat (first | refine zck ?_ | refine zcl ?_ | refine zcm ?_ | refine zcn ?_)
  refine zcj rfl ?_
  refine cut_exit rfl rfl ?_
  obtain ⟨ok, hok⟩ : ∃ ok, p.opers[kI]? = some ok := ⟨_, List.getElem?_eq_getElem hkl⟩
  obtain ⟨ck, hck, vpk, vbk, rfl, _⟩ := hos.at hok
  obtain ⟨b, off, cc, Tc, fr, rfl, f2, _, f4⟩ := hcl.cells hck
  have rN : ∀ o, o = off + kI * 3 + 0 → rd false 1 cc.toList o = some (.string ok.name) := fun o ho => f4 0 _ rfl o ho
  have vn := vars_none w0 hk zA _ _ ok.name hPl u1 u2 (less_none hWp hok)
  repeat (first | refine zck ?_ | refine zcl ?_ | refine zcm ?_ | refine zcn ?_)
  first | refine zcp (by kernel_rfl) ?_ | refine zcq PP_mixed (by kernel_rfl) (by kernel_rfl) ?_
  repeat' (refine zap rfl ?_; first | refine zaa 1 rfl rfl rfl ?_ | refine zaa 2 rfl rfl rfl ?_ | refine zad rfl (fun hF Γ w h1 h2 => f2 hF Γ w (fun p hp => by cases hp) h2) (rN _ (by omega)) ?_ | refine zan rfl ?_ | refine zan rfl ?_ | refine zah [] vn rfl rfl rfl (fun p hp => by simp [hp]) rfl ?_ | refine zce rfl ?_ | refine zao rfl ?_ | refine zan rfl ?_ | refine zas rfl rfl (by omega) ?_)
  all_goals refine zch ?_
  all_goals repeat (first | refine zck ?_ | refine zcl ?_ | refine zcm ?_ | refine zcn ?_)
  repeat' (first | refine zcp (by kernel_rfl) ?_ | (refine zap rfl ?_; first | refine zaj rfl ?_ | refine zan rfl ?_ | refine zan rfl ?_ | refine zah [] haw rfl rfl rfl sub_nil rfl ?_ | refine zbc rfl rfl (by omega) ?_ | refine zbu rfl ?_) | refine zch ?_)
  exact ret_tmp1 rfl ⟨rfl, rfl⟩
end Go.Proofs.YtijbnjaackhlcaaGreatDoor

