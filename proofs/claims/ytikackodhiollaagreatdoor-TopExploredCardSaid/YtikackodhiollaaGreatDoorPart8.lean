import Derived.Test.YtikackodhiollaaGreatDoorPart7
/- Own work: lemmas of this claim. -/
namespace Go.Proofs.YtikackodhiollaaGreatDoor
variable (w0 : World)
open Go.Vc Sim Sim.Tx
set_option maxHeartbeats 4000000
theorem numbersO (ht : TabOk w0) (sh : Shared) (b nb : Nat) (ts : List Tk) (l : List Int) (T : TypeId) (hi : ∀ n ∈ l, I64 n) (hb : l.length ≤ 100) (hts : ts.length ≤ 1000000) :
   Vc.Fn PP w0 sh 53 [bptr b, .slice (some ⟨nb, 0, none⟩) l.length l.length] [pt nb (.cells (List.toArray (intsV l)) T (0, 0)), bldT b ts]
     (fun r Γ' => ∃ Γ'', (r = .tuple #[] ∧ Γ'' = [bldT b (ts ++ l.map Tk.n)]) ∧ Γ' = Γ'' ++ [pt nb (.cells (List.toArray (intsV l)) T (0, 0))]) := by
 refine Fn.owned (R := fun r Γ'' => r = .tuple #[] ∧ Γ'' = [bldT b (ts ++ l.map Tk.n)]) ?_
 refine Fn.opened (fun _ : Unit => [bldA b (encT ts)]) (fun _ => ∀ t ∈ ts, t.in64) en53 (fun h hh => ⟨(), hh.1, Stars.one.2 hh.2⟩) (fun _ h64 => ?_)
 have hsz := enc_size h64
 have hl : RdSl w0 ((nb, Obj.cells (List.toArray (intsV l)) T (0, 0)) :: sh) encI 1 (.slice (some ⟨nb, 0, none⟩) l.length l.length) l := RdSl.ints (spare := []) (by rw [List.append_nil]; exact .head _) (Nat.le_refl _)
 refine (numbersA w0 ht _ b (encT ts) (some ⟨nb, 0, none⟩) l.length l hl hi (by omega) (by omega)).post ?_
 rintro v Γ ⟨rfl, rfl⟩
 refine ⟨_, ⟨rfl, rfl⟩, fun h hh => Stars.one.2 ⟨fun t ht => ?_, by rw [encT_app]; exact Stars.one.1 hh⟩⟩
 rcases List.mem_append.1 ht with ht | ht
 · exact h64 t ht
 · obtain ⟨z, hz, rfl⟩ := List.mem_map.1 ht
   exact hi z hz
theorem signT (sh : Shared) (b : Nat) (ts : List Tk) (ch : UInt8) (hts : ts.length ≤ 1000000) :
   FnE PP w0 sh 51 [bptr b, .int .u8 ch.toNat] [bldT b ts] .nilIface [bldT b (ts ++ [Tk.c ch])] := by
 refine Fn.opened (fun _ : Unit => [bldA b (encT ts)]) (fun _ => ∀ t ∈ ts, t.in64) en51 (fun h hh => ⟨(), hh.1, Stars.one.2 hh.2⟩) (fun _ h64 => ?_)
 have hsz := enc_size h64
 refine (writeByte w0 sh b (encT ts) ch (by omega)).post ?_
 rintro v Γ ⟨rfl, rfl⟩
 refine ⟨_, ⟨rfl, rfl⟩, fun h hh => Stars.one.2 ⟨fun t ht => ?_, ?_⟩⟩
 · rcases List.mem_append.1 ht with ht | ht
   · exact h64 t ht
   · rw [List.mem_singleton.1 ht]; trivial
 · have e : encT [Tk.c ch] = bs [ch] := rfl
   rw [encT_app, e]; exact Stars.one.1 hh
theorem rawT (ht : TabOk w0) (sh : Shared) (b : Nat) (ts : List Tk) (v : Int) (hv : I64 v) (hts : ts.length ≤ 1000000) :
   FnE PP w0 sh 57 [bptr b, wordV v] [bldT b ts] (.tuple #[]) [bldT b (ts ++ [Tk.n v, Tk.n 0, Tk.n 0])] := by
 have hN := fun nb => numbersO w0 ht [] b nb ts [v, 0, 0] 2 (fun n hn => by
   simp only [List.mem_cons, List.not_mem_nil, or_false] at hn
   rcases hn with rfl | rfl | rfl
   · exact hv
   · unfold I64; omega
   · unfold I64; omega) (by show 3 ≤ 100; omega) hts
 refine zep en57 fn57 rfl rfl rfl ?_
 repeat (first|refine zck ?_|refine zcl ?_|refine zcm ?_|refine zcn ?_)
 first|refine zcp (by kernel_rfl) ?_|refine zcq PP_mixed (by kernel_rfl) (by kernel_rfl) ?_
 repeat' (refine zap rfl ?_; first|refine zaq (cs := [_, _, _]) rfl (fun nb => ?_))
 all_goals (refine zch ?_; repeat (first|refine zck ?_|refine zcl ?_|refine zcm ?_|refine zcn ?_))
 refine zeb [1] rfl ?_
 repeat (first|refine zck ?_|refine zcl ?_|refine zcm ?_|refine zcn ?_)
 first|refine zcp (by kernel_rfl) ?_|refine zcq PP_mixed (by kernel_rfl) (by kernel_rfl) ?_
 repeat' (refine zap rfl ?_; first|refine zbz rfl (by decide) ?_|refine zdt rfl rfl rfl rfl rfl rfl (fun nb => ?_)|refine zan rfl ?_|refine zaa 0 rfl rfl rfl ?_|(refine zai [1, 0] (hN nb) rfl rfl rfl zdj ?_; rintro v Γ ⟨_, ⟨rfl, rfl⟩, rfl⟩)|refine zao rfl ?_)
 all_goals (refine zch ?_; repeat (first|refine zck ?_|refine zcl ?_|refine zcm ?_|refine zcn ?_))
 exact run_nil (zek (zel [0] rfl (ends_none rfl ⟨rfl, rfl, rfl⟩)))
theorem bitT (q : Bool) : FnE PP w0 [] 54 [.bool q] [] (.int .i64 (if q = true then 1 else 0)) [] := by
 cases q
 · refine zep en54 fn54 rfl rfl rfl ?_
   repeat' (first|refine zck ?_|refine zcp (by kernel_rfl) ?_|refine zcm ?_|(refine zap rfl ?_; first|refine zan rfl ?_|refine zan rfl ?_)|refine zch ?_|refine zcj rfl ?_)
   exact zej rfl ⟨rfl, rfl⟩
 · refine zep en54 fn54 rfl rfl rfl ?_
   repeat' (first|refine zck ?_|refine zcp (by kernel_rfl) ?_|(refine zap rfl ?_; first|refine zan rfl ?_|refine zan rfl ?_)|refine zch ?_|refine zci rfl ?_)
   exact zej rfl ⟨rfl, rfl⟩
theorem nums_app {a b : List Tk} (ha : Nums a) (hb : Nums b) : Nums (a ++ b) := fun t ht => (List.mem_append.1 ht).elim (ha t) (hb t)
theorem nums_map (l : List Int) : Nums (l.map Tk.n) := fun t ht => by
 obtain ⟨z, _, rfl⟩ := List.mem_map.1 ht
 exact ⟨z, rfl⟩
theorem viewsT (ht : TabOk w0) (sh : Shared) (b : Nat) (ts : List Tk) (m : Option Nat) (hm : RdVw w0 sh m) (hts : ts.length ≤ 900000) :
   Vc.Fn PP w0 sh 88 [bptr b, viewV m] [bldT b ts] (fun r Γ => r = .tuple #[] ∧ ∃ us, Nums us ∧ us.length ≤ 4 ∧ Γ = [bldT b (ts ++ us ++ [Tk.c 59])]) := by
 have hL := viewLocs w0 sh m hm
 obtain ⟨es, clock, ml, hX, hv⟩ := hm
 refine zep en88 fn88 rfl rfl rfl ?_
 repeat (first|refine zck ?_|refine zcl ?_|refine zcm ?_|refine zcn ?_)
 first|refine zcp (by kernel_rfl) ?_|refine zcq PP_mixed (by kernel_rfl) (by kernel_rfl) ?_
 repeat' (refine zap rfl ?_; first|refine zaq (cs := [_]) rfl (fun nb => ?_))
 all_goals (refine zch ?_; repeat (first|refine zck ?_|refine zcl ?_|refine zcm ?_|refine zcn ?_))
 refine zeb [1] rfl ?_
 repeat (first|refine zck ?_|refine zcl ?_|refine zcm ?_|refine zcn ?_)
 first|refine zcp (by kernel_rfl) ?_|refine zcq PP_mixed (by kernel_rfl) (by kernel_rfl) ?_
 repeat' (refine zap rfl ?_; first|refine zan rfl ?_|refine zaa 0 rfl rfl rfl ?_|(refine zai [] hL rfl rfl rfl (fun _ hp => .tail _ hp) ?_; rintro v Γ ⟨l, a, c, ⟨hl1, hl2⟩, rfl, rfl⟩)|refine zce rfl ?_)
 all_goals (refine zch ?_; repeat (first|refine zck ?_|refine zcl ?_|refine zcm ?_|refine zcn ?_))
 refine run_shareP [0] (fun s => RdCl w0 s 1 a l.length (l.map kvL) ∧ l.length ≤ c) RdO.ofCl rfl ?_
 intro bl hs hcl
 have hrow : RdSl w0 _ encI 1 (.slice a l.length c) l := RdCl.sl (fun _ _ => rfl) (by rw [show l.flatMap encI = l.map kvL from flat_one _ _]; exact hcl.1) hcl.2
 refine run_loop (S := Nat × List Tk) (fun s => [(0, bptr b), (3, .pointer (some ⟨nb, 0, none⟩)), (7, .slice a l.length c), (8, .int .i64 l.length), (9, .int .i64 s.1)])
   (fun s Γ => Γ = [bldT b (ts ++ s.2)] ∧ Nums s.2 ∧ s.2.length = 2 * s.1 ∧ s.1 ≤ l.length) (fun s => l.length - s.1) (0, []) ⟨rfl, rfl, rfl, rfl, rfl, trivial⟩ ⟨by rw [List.append_nil]; rfl, fun t ht => (by cases ht), rfl, Nat.zero_le _⟩ ?_
 rintro ⟨i, us⟩ Γ junk ⟨rfl, hus, hul, hil⟩
 dsimp only at hus hul hil ⊢
 by_cases he : i = l.length
 · subst he
   have hS := signT w0 [] b (ts ++ us) 59 (by rw [List.length_append]; omega)
   repeat (first|refine zck ?_|refine zcl ?_|refine zcm ?_|refine zcn ?_)
   first|refine zcp (by kernel_rfl) ?_|refine zcq PP_mixed (by kernel_rfl) (by kernel_rfl) ?_
   repeat' (refine zap rfl ?_; first|refine zbh rfl rfl (by omega) ?_)
   all_goals (refine zch ?_; repeat (first|refine zck ?_|refine zcl ?_|refine zcm ?_|refine zcn ?_))
   refine zcj rfl ?_
   refine zer rfl rfl ?_
   repeat (first|refine zck ?_|refine zcl ?_|refine zcm ?_|refine zcn ?_|refine zco ?_)
   repeat (first|refine zck ?_|refine zcl ?_|refine zcm ?_|refine zcn ?_)
   first|refine zcp (by kernel_rfl) ?_|refine zcq PP_mixed (by kernel_rfl) (by kernel_rfl) ?_
   repeat' (refine zap rfl ?_; first|refine zan rfl ?_|refine zah [0] hS rfl rfl rfl zdj rfl ?_)
   all_goals (refine zch ?_; repeat (first|refine zck ?_|refine zcl ?_|refine zcm ?_|refine zcn ?_))
   exact run_nil (zek (ends_none rfl ⟨rfl, us, hus, by omega, rfl⟩))
 · obtain ⟨x, hx⟩ : ∃ x, l[i]? = some x := ⟨_, List.getElem?_eq_getElem (by omega)⟩
   obtain ⟨bb, off, cc, T, fr, ea, e2, _, e3⟩ := hrow.cells hx
   subst ea
   have hxi := hl2 x (List.mem_of_getElem? hx)
   obtain ⟨z, hz, hz1, hz2⟩ := hv.look x
   have hA := viewAt w0 sh m es clock ml hX x
   rw [hz] at hA
   have hN := fun nb => numbersO w0 ht [] b nb (ts ++ us) [x, z] 2 (fun n hn => by
     simp only [List.mem_cons, List.not_mem_nil, or_false] at hn
     unfold I64
     rcases hn with rfl | rfl <;> omega) (by show 2 ≤ 100; omega) (by rw [List.length_append]; omega)
   repeat (first|refine zck ?_|refine zcl ?_|refine zcm ?_|refine zcn ?_)
   first|refine zcp (by kernel_rfl) ?_|refine zcq PP_mixed (by kernel_rfl) (by kernel_rfl) ?_
   repeat' (refine zap rfl ?_; first|refine zbg rfl rfl (by omega) ?_)
   all_goals (refine zch ?_; repeat (first|refine zck ?_|refine zcl ?_|refine zcm ?_|refine zcn ?_))
   refine zci rfl ?_
   repeat (first|refine zck ?_|refine zcl ?_|refine zcm ?_|refine zcn ?_|refine zco ?_)
   repeat (first|refine zck ?_|refine zcl ?_|refine zcm ?_|refine zcn ?_)
   first|refine zcp (by kernel_rfl) ?_|refine zcq PP_mixed (by kernel_rfl) (by kernel_rfl) ?_
   repeat' (refine zap rfl ?_; first|refine zas rfl rfl (by omega) ?_|refine zad rfl e2 (e3 0 _ rfl _ (by omega)) ?_|refine zan rfl ?_)
   all_goals (refine zch ?_; repeat (first|refine zck ?_|refine zcl ?_|refine zcm ?_|refine zcn ?_))
   repeat (first|refine zck ?_|refine zcl ?_|refine zcm ?_|refine zcn ?_|refine zco ?_)
   repeat (first|refine zck ?_|refine zcl ?_|refine zcm ?_|refine zcn ?_)
   first|refine zcp (by kernel_rfl) ?_|refine zcq PP_mixed (by kernel_rfl) (by kernel_rfl) ?_
   repeat' (refine zap rfl ?_; first|refine zdt rfl rfl rfl rfl rfl rfl (fun nb => ?_)|refine zan rfl ?_|refine zaa 0 rfl rfl rfl ?_|refine zah [] hA rfl rfl rfl (fun p hp => .tail _ (List.mem_append_left _ hp)) rfl ?_|(refine zai [1, 0] (hN nb) rfl rfl rfl zdj ?_; rintro v Γ ⟨_, ⟨rfl, rfl⟩, rfl⟩))
   all_goals (refine zch ?_; repeat (first|refine zck ?_|refine zcl ?_|refine zcm ?_|refine zcn ?_))
   refine zec [0] rfl ?_
   repeat (first|refine zck ?_|refine zcl ?_|refine zcm ?_|refine zcn ?_|refine zco ?_)
   repeat (first|refine zck ?_|refine zcl ?_|refine zcm ?_|refine zcn ?_)
   first|refine zcp (by kernel_rfl) ?_|refine zcq PP_mixed (by kernel_rfl) (by kernel_rfl) ?_
   repeat' (refine zap rfl ?_; first|refine zan rfl ?_|refine zau rfl rfl (by omega) ?_)
   all_goals (refine zch ?_; repeat (first|refine zck ?_|refine zcl ?_|refine zcm ?_|refine zcn ?_))
   exact zeq ⟨rfl, (i + 1, us ++ [Tk.n x, Tk.n z]), ⟨rfl, rfl, rfl, rfl, zes (by omega), trivial⟩, ⟨by rw [← List.append_assoc]; rfl, nums_app hus (nums_map [x, z]), by rw [List.length_append]; simp only [List.length_cons, List.length_nil]; omega, by omega⟩, by dsimp only; omega⟩
end Go.Proofs.YtikackodhiollaaGreatDoor
namespace Sim.Tx
open Go Go.Vc Sim
theorem PlaceT.last {v : Int} {T : List Tk} (h : PlaceT v T) : ∃ J', T = J' ++ [.c 59] := by
 obtain ⟨J, Q, th, e, _⟩ := h.form
 exact ⟨_, e⟩
theorem PlaceT.step {T us : List Tk} (h : T = [] ∨ ∃ v, PlaceT v T) (w th : Int) (hus : Nums us) : PlaceT w (T ++ ([Tk.n w, Tk.n 0, Tk.n 0] ++ [Tk.n th] ++ us ++ [Tk.c 59])) := by
 refine ⟨T, us, th, by simp, ?_, ?_, hus⟩
 · rcases h with rfl | ⟨v, h⟩
   · exact fun t ht => by cases ht
   · exact h.semi
 · rcases h with rfl | ⟨v, h⟩
   · exact .inl rfl
   · exact .inr h.last
def MemT (x y : Int) (i : Nat) (T : List Tk) : Prop :=
 (i = 0 ∧ T = []) ∨ (i = 1 ∧ ∃ P0, PlaceT x P0 ∧ T = P0 ++ [.c 47]) ∨ (i = 2 ∧ ∃ P0 P1, PlaceT x P0 ∧ PlaceT y P1 ∧ T = P0 ++ [.c 47] ++ (P1 ++ [.c 47]))
theorem MemT.step {x y : Int} {i : Nat} {T P : List Tk} (h : MemT x y i T) (hi : i < 2) (hP : PlaceT (if i = 0 then x else y) P) : MemT x y (i + 1) (T ++ P ++ [.c 47]) := by
 rcases h with ⟨rfl, rfl⟩ | ⟨rfl, P0, h0, rfl⟩ | ⟨rfl, _⟩
 · exact .inr (.inl ⟨rfl, P, hP, rfl⟩)
 · exact .inr (.inr ⟨rfl, P0, P, h0, hP, by simp⟩)
 · omega
def MemK (x y : Int) (us : List Tk) : Prop := ∃ P0 P1 V, PlaceT x P0 ∧ PlaceT y P1 ∧ Semi V ∧ us = P0 ++ .c 47 :: (P1 ++ .c 47 :: V)
end Sim.Tx
namespace Go.Proofs.YtikackodhiollaaGreatDoor
variable (w0 : World)
open Go.Vc Sim Sim.Tx
set_option maxHeartbeats 8000000
theorem exMemory (ht : TabOk w0) (sh : Shared) (b : Nat) (ts : List Tk) (m : MacS) (x y : Int) (cnt : Nat) (hc : cnt ≤ 1000) (h : RdMac w0 sh m x y cnt) (hts : ts.length ≤ 100000) :
   Vc.Fn PP w0 sh 50 [bptr b, macV m] [bldT b ts] (fun r Γ => r = .tuple #[] ∧ ∃ us, MemK x y us ∧ us.length ≤ 30000 ∧ Γ = [bldT b (ts ++ us)]) := by
 obtain ⟨h0, h1, vs, hM, hb, hcc⟩ := h.mem
 have hrow := hM.row
 have hviews := hM.views
 have hvl := hM.len
 have hok := hM.ok
 have key : ∀ i, i < 2 → ∃ hh ms, [h0, h1][i]? = some hh ∧ RdMs w0 sh hh (if i = 0 then x else y) cnt ms := fun i hi => by
   rcases (by omega : i = 0 ∨ i = 1) with rfl | rfl
   · obtain ⟨ms, hm⟩ := hb
     exact ⟨h0, ms, rfl, hm⟩
   · obtain ⟨ms, hm⟩ := hcc
     exact ⟨h1, ms, rfl, hm⟩
 have hSz := macSize w0 m
 have hMm := macMemory w0 m
 refine zep en50 fn50 rfl rfl rfl ?_
 repeat (first|refine zck ?_|refine zcl ?_|refine zcm ?_|refine zcn ?_)
 first|refine zcp (by kernel_rfl) ?_|refine zcq PP_mixed (by kernel_rfl) (by kernel_rfl) ?_
 repeat' (refine zap rfl ?_; first|refine zaq (cs := [_, _, _, _, _, _, _]) rfl (fun nb => ?_))
 all_goals (refine zch ?_; repeat (first|refine zck ?_|refine zcl ?_|refine zcm ?_|refine zcn ?_))
 refine zeb [1] rfl ?_
 repeat (first|refine zck ?_|refine zcl ?_|refine zcm ?_|refine zcn ?_)
 first|refine zcp (by kernel_rfl) ?_|refine zcq PP_mixed (by kernel_rfl) (by kernel_rfl) ?_
 repeat' (refine zap rfl ?_; first|refine zan rfl ?_|refine zaa 0 rfl rfl rfl ?_|refine zah [] hSz rfl rfl rfl zdj rfl ?_)
 all_goals (refine zch ?_; repeat (first|refine zck ?_|refine zcl ?_|refine zcm ?_|refine zcn ?_))
 repeat (first|refine zck ?_|refine zcl ?_|refine zcm ?_|refine zcn ?_|refine zco ?_)
 repeat (first|refine zck ?_|refine zcl ?_|refine zcm ?_|refine zcn ?_)
 first|refine zcp (by kernel_rfl) ?_|refine zcq PP_mixed (by kernel_rfl) (by kernel_rfl) ?_
 repeat' (refine zap rfl ?_; first|refine zan rfl ?_)
 all_goals (refine zch ?_; repeat (first|refine zck ?_|refine zcl ?_|refine zcm ?_|refine zcn ?_))
 repeat (first|refine zck ?_|refine zcl ?_|refine zcm ?_|refine zcn ?_|refine zco ?_)
 refine run_loop (S := Nat × List Tk) (fun s => [(0, bptr b), (3, .pointer (some ⟨nb, 0, none⟩)), (4, .int .i64 3), (18, .int .i64 2), (19, .int .i64 s.1)])
   (fun s Γ => Γ = [bldT b (ts ++ s.2)] ∧ MemT x y s.1 s.2 ∧ s.2.length ≤ s.1 * 10011 ∧ s.1 ≤ 2) (fun s => 2 - s.1) (0, []) ⟨rfl, rfl, rfl, rfl, rfl, trivial⟩ ⟨by rw [List.append_nil]; rfl, .inl ⟨rfl, rfl⟩, Nat.zero_le _, by decide⟩ ?_
 rintro ⟨i, T⟩ Γ junk ⟨rfl, hT, hTl, hi2⟩
 dsimp only at hT hTl hi2 ⊢
 by_cases he : i = 2
 · subst he
   repeat (first|refine zck ?_|refine zcl ?_|refine zcm ?_|refine zcn ?_)
   first|refine zcp (by kernel_rfl) ?_|refine zcq PP_mixed (by kernel_rfl) (by kernel_rfl) ?_
   repeat' (refine zap rfl ?_; first|refine zbh rfl rfl (by omega) ?_)
   all_goals (refine zch ?_; repeat (first|refine zck ?_|refine zcl ?_|refine zcm ?_|refine zcn ?_))
   refine zcj rfl ?_
   refine zer rfl rfl ?_
   repeat (first|refine zck ?_|refine zcl ?_|refine zcm ?_|refine zcn ?_|refine zco ?_)
   repeat (first|refine zck ?_|refine zcl ?_|refine zcm ?_|refine zcn ?_)
   first|refine zcp (by kernel_rfl) ?_|refine zcq PP_mixed (by kernel_rfl) (by kernel_rfl) ?_
   repeat' (refine zap rfl ?_; first|refine zan rfl ?_)
   all_goals (refine zch ?_; repeat (first|refine zck ?_|refine zcl ?_|refine zcm ?_|refine zcn ?_))
   repeat (first|refine zck ?_|refine zcl ?_|refine zcm ?_|refine zcn ?_|refine zco ?_)
   refine run_loop (S := Nat × List Tk) (fun s => [(0, bptr b), (3, .pointer (some ⟨nb, 0, none⟩)), (4, .int .i64 3), (12, .int .i64 ((s.1 : Int) + 1))])
     (fun s Γ => Γ = [bldT b (ts ++ T ++ s.2)] ∧ Semi s.2 ∧ s.2.length ≤ s.1 * 5 ∧ s.1 ≤ 3) (fun s => 3 - s.1) (0, []) ⟨rfl, rfl, rfl, rfl, trivial⟩ ⟨by rw [List.append_nil], fun t ht => (by cases ht), Nat.zero_le _, by decide⟩ ?_
   rintro ⟨j, V⟩ Γ junk2 ⟨rfl, hV, hVl, hj⟩
   dsimp only at hV hVl hj ⊢
   by_cases he : j = 3
   · subst he
     repeat (first|refine zck ?_|refine zcl ?_|refine zcm ?_|refine zcn ?_)
     first|refine zcp (by kernel_rfl) ?_|refine zcq PP_mixed (by kernel_rfl) (by kernel_rfl) ?_
     repeat' (refine zap rfl ?_; first|refine zan rfl ?_|refine zbj rfl rfl (by omega) ?_)
     all_goals (refine zch ?_; repeat (first|refine zck ?_|refine zcl ?_|refine zcm ?_|refine zcn ?_))
     refine zcj rfl ?_
     refine zer rfl rfl ?_
     rcases hT with ⟨h', _⟩ | ⟨h', _⟩ | ⟨_, P0, P1, e0, e1, rfl⟩
     · cases h'
     · cases h'
     refine run_nil (zek (ends_none rfl ⟨rfl, P0 ++ .c 47 :: (P1 ++ .c 47 :: V), ⟨P0, P1, V, e0, e1, hV, rfl⟩, ?_, ?_⟩))
     · simp only [List.length_append, List.length_cons, List.length_nil] at hTl ⊢; omega
     · rw [List.append_assoc]; congr 2; simp
   · obtain ⟨va, hva⟩ : ∃ v, vs[j]? = some v := ⟨_, List.getElem?_eq_getElem (by omega)⟩
     have hSeen := memSeen w0 sh m.q.pa 2 m.q.pc m.q.va m.q.vc vs (by rw [hvl]; exact hviews) j va hva (by omega)
     rw [hvl] at hSeen
     have hVw := viewsT w0 ht sh b (ts ++ T ++ V) va (hok va (List.mem_of_getElem? hva)) (by simp only [List.length_append]; omega)
     repeat (first|refine zck ?_|refine zcl ?_|refine zcm ?_|refine zcn ?_)
     first|refine zcp (by kernel_rfl) ?_|refine zcq PP_mixed (by kernel_rfl) (by kernel_rfl) ?_
     repeat' (refine zap rfl ?_; first|refine zan rfl ?_|refine zbi rfl rfl (by omega) ?_)
     all_goals (refine zch ?_; repeat (first|refine zck ?_|refine zcl ?_|refine zcm ?_|refine zcn ?_))
     refine zci rfl ?_
     repeat (first|refine zck ?_|refine zcl ?_|refine zcm ?_|refine zcn ?_|refine zco ?_)
     repeat (first|refine zck ?_|refine zcl ?_|refine zcm ?_|refine zcn ?_)
     first|refine zcp (by kernel_rfl) ?_|refine zcq PP_mixed (by kernel_rfl) (by kernel_rfl) ?_
     repeat' (refine zap rfl ?_; first|refine zan rfl ?_|refine zaa 0 rfl rfl rfl ?_|refine zah [] hMm rfl rfl rfl zdj rfl ?_|refine zah [] hSeen rfl rfl rfl (fun p hp => .tail _ hp) rfl ?_|(refine zai [0] hVw rfl rfl rfl (fun p hp => .tail _ hp) ?_; rintro v Γ ⟨rfl, us, hus, hul, rfl⟩))
     all_goals (refine zch ?_; repeat (first|refine zck ?_|refine zcl ?_|refine zcm ?_|refine zcn ?_))
     repeat (first|refine zck ?_|refine zcl ?_|refine zcm ?_|refine zcn ?_|refine zco ?_)
     repeat (first|refine zck ?_|refine zcl ?_|refine zcm ?_|refine zcn ?_)
     first|refine zcp (by kernel_rfl) ?_|refine zcq PP_mixed (by kernel_rfl) (by kernel_rfl) ?_
     repeat' (refine zap rfl ?_; first|refine zan rfl ?_|refine zau rfl rfl (by omega) ?_)
     all_goals (refine zch ?_; repeat (first|refine zck ?_|refine zcl ?_|refine zcm ?_|refine zcn ?_))
     exact zeq ⟨rfl, (j + 1, V ++ us ++ [Tk.c 59]), ⟨rfl, rfl, rfl, zes (by omega), trivial⟩, ⟨by simp, (hV.append hus.semi).append (fun t ht => .inr (List.mem_singleton.1 ht)), by simp only [List.length_append, List.length_cons, List.length_nil]; omega, by omega⟩, by dsimp only; omega⟩
 · obtain ⟨⟨ga, gn, gc⟩, ms, e1, hms⟩ := key i (by omega)
   have hn := hms.1
   have hr := hms.row
   have hml := hms.2.2.2.2.1
   have hmok := hms.2.2.2.1
   obtain ⟨mm, hm1, hm2⟩ := hms.2.2.2.2.2
   dsimp only at hn hr
   subst hn
   have hH := memHistory w0 sh m.q.pa m.q.pc m.q.va 3 m.q.vc [h0, h1] hrow i ⟨ga, ms.length, gc⟩ e1
   have hLen := hisLen w0 ga ms.length gc
   repeat (first|refine zck ?_|refine zcl ?_|refine zcm ?_|refine zcn ?_)
   first|refine zcp (by kernel_rfl) ?_|refine zcq PP_mixed (by kernel_rfl) (by kernel_rfl) ?_
   repeat' (refine zap rfl ?_; first|refine zbg rfl rfl (by omega) ?_)
   all_goals (refine zch ?_; repeat (first|refine zck ?_|refine zcl ?_|refine zcm ?_|refine zcn ?_))
   refine zci rfl ?_
   repeat (first|refine zck ?_|refine zcl ?_|refine zcm ?_|refine zcn ?_|refine zco ?_)
   repeat (first|refine zck ?_|refine zcl ?_|refine zcm ?_|refine zcn ?_)
   first|refine zcp (by kernel_rfl) ?_|refine zcq PP_mixed (by kernel_rfl) (by kernel_rfl) ?_
   repeat' (refine zap rfl ?_; first|refine zan rfl ?_)
   all_goals (refine zch ?_; repeat (first|refine zck ?_|refine zcl ?_|refine zcm ?_|refine zcn ?_))
   repeat (first|refine zck ?_|refine zcl ?_|refine zcm ?_|refine zcn ?_|refine zco ?_)
   repeat (first|refine zck ?_|refine zcl ?_|refine zcm ?_|refine zcn ?_)
   first|refine zcp (by kernel_rfl) ?_|refine zcq PP_mixed (by kernel_rfl) (by kernel_rfl) ?_
   repeat' (refine zap rfl ?_; first|refine zar (fun t7 => ?_)|refine zan rfl ?_|refine zaa 0 rfl rfl rfl ?_|refine zah [] hMm rfl rfl rfl zdj rfl ?_|refine zah [] hH rfl rfl rfl (fun p hp => .tail _ hp) rfl ?_|refine zae 1 rfl rfl rfl rfl rfl rfl rfl ?_)
   all_goals (refine zch ?_; repeat (first|refine zck ?_|refine zcl ?_|refine zcm ?_|refine zcn ?_))
   repeat (first|refine zck ?_|refine zcl ?_|refine zcm ?_|refine zcn ?_|refine zco ?_)
   refine zeb [1] rfl ?_
   repeat (first|refine zck ?_|refine zcl ?_|refine zcm ?_|refine zcn ?_)
   first|refine zcp (by kernel_rfl) ?_|refine zcq PP_mixed (by kernel_rfl) (by kernel_rfl) ?_
   repeat' (refine zap rfl ?_; first|refine zan rfl ?_|refine zaa 0 rfl rfl rfl ?_|refine zah [] hLen rfl rfl rfl zdj rfl ?_)
   all_goals (refine zch ?_; repeat (first|refine zck ?_|refine zcl ?_|refine zcm ?_|refine zcn ?_))
   repeat (first|refine zck ?_|refine zcl ?_|refine zcm ?_|refine zcn ?_|refine zco ?_)
   refine run_loop (S := Nat × List Tk) (fun s => [(0, bptr b), (3, .pointer (some ⟨nb, 0, none⟩)), (4, .int .i64 3), (7, .pointer (some ⟨t7, 0, none⟩)), (18, .int .i64 2), (19, .int .i64 i), (30, .int .i64 ms.length), (31, .int .i64 s.1)])
     (fun s Γ => Γ = [bldT b (ts ++ T ++ s.2)] ∧ ((s.1 = 0 ∧ s.2 = []) ∨ ∃ j mj, s.1 = j + 1 ∧ ms[j]? = some mj ∧ PlaceT mj.v s.2) ∧ s.2.length ≤ s.1 * 10 ∧ s.1 ≤ ms.length) (fun s => ms.length - s.1) (0, []) ⟨rfl, rfl, rfl, rfl, rfl, rfl, rfl, rfl, trivial⟩ ⟨by rw [List.append_nil]; rfl, .inl ⟨rfl, rfl⟩, Nat.zero_le _, Nat.zero_le _⟩ ?_
   rintro ⟨j, U⟩ Γ junk3 ⟨rfl, hU, hUl, hj⟩
   dsimp only at hU hUl hj ⊢
   by_cases he2 : j = ms.length
   · subst he2
     have hSg := signT w0 [] b (ts ++ T ++ U) 47 (by simp only [List.length_append]; omega)
     have hPU : PlaceT (if i = 0 then x else y) U := by
       rcases hU with ⟨h', _⟩ | ⟨j, mj, h', hj2, hP⟩
       · have := (List.getElem?_eq_some_iff.1 hm1).1; omega
       · rw [show ms.length - 1 = j by omega, hj2] at hm1
         cases hm1
         rw [hm2] at hP
         exact hP
     repeat (first|refine zck ?_|refine zcl ?_|refine zcm ?_|refine zcn ?_)
     first|refine zcp (by kernel_rfl) ?_|refine zcq PP_mixed (by kernel_rfl) (by kernel_rfl) ?_
     repeat' (refine zap rfl ?_; first|refine zbh rfl rfl (by omega) ?_)
     all_goals (refine zch ?_; repeat (first|refine zck ?_|refine zcl ?_|refine zcm ?_|refine zcn ?_))
     refine zcj rfl ?_
     refine zer rfl rfl ?_
     repeat (first|refine zck ?_|refine zcl ?_|refine zcm ?_|refine zcn ?_|refine zco ?_)
     repeat (first|refine zck ?_|refine zcl ?_|refine zcm ?_|refine zcn ?_)
     first|refine zcp (by kernel_rfl) ?_|refine zcq PP_mixed (by kernel_rfl) (by kernel_rfl) ?_
     repeat' (refine zap rfl ?_; first|refine zan rfl ?_|refine zah [0] hSg rfl rfl rfl zdj rfl ?_)
     all_goals (refine zch ?_; repeat (first|refine zck ?_|refine zcl ?_|refine zcm ?_|refine zcn ?_))
     repeat (first|refine zck ?_|refine zcl ?_|refine zcm ?_|refine zcn ?_|refine zco ?_)
     repeat (first|refine zck ?_|refine zcl ?_|refine zcm ?_|refine zcn ?_)
     first|refine zcp (by kernel_rfl) ?_|refine zcq PP_mixed (by kernel_rfl) (by kernel_rfl) ?_
     repeat' (refine zap rfl ?_; first|refine zan rfl ?_|refine zau rfl rfl (by omega) ?_)
     all_goals (refine zch ?_; repeat (first|refine zck ?_|refine zcl ?_|refine zcm ?_|refine zcn ?_))
     exact zeq ⟨rfl, (i + 1, T ++ U ++ [Tk.c 47]), ⟨rfl, rfl, rfl, rfl, zes (by omega), trivial⟩, ⟨by simp, hT.step (by omega) hPU, by simp only [List.length_append, List.length_cons, List.length_nil]; omega, by omega⟩, by dsimp only; omega⟩
   · obtain ⟨mj, hmj⟩ : ∃ z, ms[j]? = some z := ⟨_, List.getElem?_eq_getElem (by omega)⟩
     have hAt := hisAt w0 sh ms ga gc hr j mj hmj
     have hmo := hmok mj (List.mem_of_getElem? hmj)
     have hRw := rawT w0 ht [] b (ts ++ T ++ U) mj.v hmo.2.1 (by simp only [List.length_append]; omega)
     have hN := fun nb => numbersO w0 ht [] b nb (ts ++ T ++ U ++ [Tk.n mj.v, Tk.n 0, Tk.n 0]) [mj.th] 2 (fun n hn => by rw [List.mem_singleton.1 hn]; exact hmo.2.2) (by show 1 ≤ 100; omega) (by simp only [List.length_append, List.length_cons, List.length_nil]; omega)
     have hVw := viewsT w0 ht sh b (ts ++ T ++ U ++ [Tk.n mj.v, Tk.n 0, Tk.n 0] ++ [Tk.n mj.th]) mj.vw hmo.1 (by simp only [List.length_append, List.length_cons, List.length_nil]; omega)
     obtain ⟨mv, mt, mw⟩ := mj
     dsimp only at hRw hN hVw
     repeat (first|refine zck ?_|refine zcl ?_|refine zcm ?_|refine zcn ?_)
     first|refine zcp (by kernel_rfl) ?_|refine zcq PP_mixed (by kernel_rfl) (by kernel_rfl) ?_
     repeat' (refine zap rfl ?_; first|refine zbg rfl rfl (by omega) ?_)
     all_goals (refine zch ?_; repeat (first|refine zck ?_|refine zcl ?_|refine zcm ?_|refine zcn ?_))
     refine zci rfl ?_
     repeat (first|refine zck ?_|refine zcl ?_|refine zcm ?_|refine zcn ?_|refine zco ?_)
     repeat (first|refine zck ?_|refine zcl ?_|refine zcm ?_|refine zcn ?_)
     first|refine zcp (by kernel_rfl) ?_|refine zcq PP_mixed (by kernel_rfl) (by kernel_rfl) ?_
     repeat' (refine zap rfl ?_; first|refine zan rfl ?_)
     all_goals (refine zch ?_; repeat (first|refine zck ?_|refine zcl ?_|refine zcm ?_|refine zcn ?_))
     repeat (first|refine zck ?_|refine zcl ?_|refine zcm ?_|refine zcn ?_|refine zco ?_)
     repeat (first|refine zck ?_|refine zcl ?_|refine zcm ?_|refine zcn ?_)
     first|refine zcp (by kernel_rfl) ?_|refine zcq PP_mixed (by kernel_rfl) (by kernel_rfl) ?_
     repeat' (refine zap rfl ?_; first|refine zar (fun t10 => ?_)|refine zan rfl ?_|refine zaa 0 rfl rfl rfl ?_|refine zah [] hAt rfl rfl rfl (fun p hp => .tail _ (.tail _ hp)) rfl ?_|refine zae 1 rfl rfl rfl rfl rfl rfl rfl ?_)
     all_goals (refine zch ?_; repeat (first|refine zck ?_|refine zcl ?_|refine zcm ?_|refine zcn ?_))
     repeat (first|refine zck ?_|refine zcl ?_|refine zcm ?_|refine zcn ?_|refine zco ?_)
     refine zeb [1] rfl ?_
     repeat (first|refine zck ?_|refine zcl ?_|refine zcm ?_|refine zcn ?_)
     first|refine zcp (by kernel_rfl) ?_|refine zcq PP_mixed (by kernel_rfl) (by kernel_rfl) ?_
     repeat' (refine zap rfl ?_; first|refine zan rfl ?_|refine zaa 0 rfl rfl rfl ?_|refine zah [0] hRw rfl rfl rfl zdj rfl ?_|refine zao rfl ?_)
     all_goals (refine zch ?_; repeat (first|refine zck ?_|refine zcl ?_|refine zcm ?_|refine zcn ?_))
     repeat (first|refine zck ?_|refine zcl ?_|refine zcm ?_|refine zcn ?_|refine zco ?_)
     repeat (first|refine zck ?_|refine zcl ?_|refine zcm ?_|refine zcn ?_)
     first|refine zcp (by kernel_rfl) ?_|refine zcq PP_mixed (by kernel_rfl) (by kernel_rfl) ?_
     repeat' (refine zap rfl ?_; first|refine zdt rfl rfl rfl rfl rfl rfl (fun nb => ?_)|refine zan rfl ?_|refine zaa 0 rfl rfl rfl ?_|(refine zai [1, 0] (hN nb) rfl rfl rfl zdj ?_; rintro v Γ ⟨_, ⟨rfl, rfl⟩, rfl⟩)|refine zao rfl ?_)
     all_goals (refine zch ?_; repeat (first|refine zck ?_|refine zcl ?_|refine zcm ?_|refine zcn ?_))
     refine zec [0] rfl ?_
     repeat (first|refine zck ?_|refine zcl ?_|refine zcm ?_|refine zcn ?_|refine zco ?_)
     repeat (first|refine zck ?_|refine zcl ?_|refine zcm ?_|refine zcn ?_)
     first|refine zcp (by kernel_rfl) ?_|refine zcq PP_mixed (by kernel_rfl) (by kernel_rfl) ?_
     repeat' (refine zap rfl ?_; first|refine zan rfl ?_|refine zaa 0 rfl rfl rfl ?_|(refine zai [0] hVw rfl rfl rfl (fun p hp => .tail _ (.tail _ (.tail _ hp))) ?_; rintro v Γ ⟨rfl, us, hus, hul, rfl⟩)|refine zao rfl ?_)
     all_goals (refine zch ?_; repeat (first|refine zck ?_|refine zcl ?_|refine zcm ?_|refine zcn ?_))
     repeat (first|refine zck ?_|refine zcl ?_|refine zcm ?_|refine zcn ?_|refine zco ?_)
     repeat (first|refine zck ?_|refine zcl ?_|refine zcm ?_|refine zcn ?_)
     first|refine zcp (by kernel_rfl) ?_|refine zcq PP_mixed (by kernel_rfl) (by kernel_rfl) ?_
     repeat' (refine zap rfl ?_; first|refine zan rfl ?_|refine zau rfl rfl (by omega) ?_)
     all_goals (refine zch ?_; repeat (first|refine zck ?_|refine zcl ?_|refine zcm ?_|refine zcn ?_))
     exact zeq ⟨rfl, (j + 1, U ++ ([Tk.n mv, Tk.n 0, Tk.n 0] ++ [Tk.n mt] ++ us ++ [Tk.c 59])), ⟨rfl, rfl, rfl, rfl, rfl, rfl, rfl, zes (by omega), trivial⟩, ⟨by simp, .inr ⟨j, _, rfl, hmj, PlaceT.step (hU.imp (fun h => h.2) (fun ⟨_, _, _, _, hp⟩ => ⟨_, hp⟩)) mv mt hus⟩, by simp only [List.length_append, List.length_cons, List.length_nil]; omega, by omega⟩, by dsimp only; omega⟩
end Go.Proofs.YtikackodhiollaaGreatDoor
namespace Go.Proofs.YtikackodhiollaaGreatDoor
variable (w0 : World)
open Go.Vc Sim Sim.Tx
set_option maxHeartbeats 8000000
theorem exLines (ht : TabOk w0) (sh : Shared) (b : Nat) (ts : List Tk) (m : MacS) (x y : Int) (cnt : Nat) (hc : cnt ≤ 1000) (h : RdMac w0 sh m x y cnt) (hts : ts.length ≤ 200000) :
   Vc.Fn PP w0 sh 52 [bptr b, macV m] [bldT b ts] (fun r Γ => r = .tuple #[] ∧ ∃ us, Nums us ∧ us.length ≤ 10 ∧ Γ = [bldT b (ts ++ us)]) := by
 have hSz := macSize w0 m
 have hLn := macLines w0 m
 have hK := linKept w0 sh m.l cnt h.lin
 have hlc := h.lin.few
 have hSy := fun j hj => linSync w0 sh m.l cnt h.lin j hj
 have hN := fun nb => numbersO w0 ht [] b nb ts [0, (m.l.sn : Int)] 2 (fun n hn => by
   simp only [List.mem_cons, List.not_mem_nil, or_false] at hn
   unfold I64
   rcases hn with rfl | rfl <;> omega) (by show 2 ≤ 100; omega) (by omega)
 refine zep en52 fn52 rfl rfl rfl ?_
 repeat (first|refine zck ?_|refine zcl ?_|refine zcm ?_|refine zcn ?_)
 first|refine zcp (by kernel_rfl) ?_|refine zcq PP_mixed (by kernel_rfl) (by kernel_rfl) ?_
 repeat' (refine zap rfl ?_; first|refine zaq (cs := [_, _, _, _, _, _, _]) rfl (fun t3 => ?_))
 all_goals (refine zch ?_; repeat (first|refine zck ?_|refine zcl ?_|refine zcm ?_|refine zcn ?_))
 refine zeb [1] rfl ?_
 repeat (first|refine zck ?_|refine zcl ?_|refine zcm ?_|refine zcn ?_)
 first|refine zcp (by kernel_rfl) ?_|refine zcq PP_mixed (by kernel_rfl) (by kernel_rfl) ?_
 repeat' (refine zap rfl ?_; first|refine zan rfl ?_|refine zaa 0 rfl rfl rfl ?_|refine zah [] hSz rfl rfl rfl zdj rfl ?_)
 all_goals (refine zch ?_; repeat (first|refine zck ?_|refine zcl ?_|refine zcm ?_|refine zcn ?_))
 repeat (first|refine zck ?_|refine zcl ?_|refine zcm ?_|refine zcn ?_|refine zco ?_)
 repeat (first|refine zck ?_|refine zcl ?_|refine zcm ?_|refine zcn ?_)
 first|refine zcp (by kernel_rfl) ?_|refine zcq PP_mixed (by kernel_rfl) (by kernel_rfl) ?_
 repeat' (refine zap rfl ?_; first|refine zax rfl rfl (by omega) ?_|refine zan rfl ?_|refine zau rfl rfl (by omega) ?_|refine zav rfl rfl (by omega) ?_)
 all_goals (refine zch ?_; repeat (first|refine zck ?_|refine zcl ?_|refine zcm ?_|refine zcn ?_))
 repeat (first|refine zck ?_|refine zcl ?_|refine zcm ?_|refine zcn ?_|refine zco ?_)
 refine zet ?_
 repeat (first|refine zck ?_|refine zcl ?_|refine zcm ?_|refine zcn ?_|refine zco ?_)
 repeat (first|refine zck ?_|refine zcl ?_|refine zcm ?_|refine zcn ?_)
 first|refine zcp (by kernel_rfl) ?_|refine zcq PP_mixed (by kernel_rfl) (by kernel_rfl) ?_
 repeat' (refine zap rfl ?_; first|refine zbg rfl rfl (by omega) ?_)
 all_goals (refine zch ?_; repeat (first|refine zck ?_|refine zcl ?_|refine zcm ?_|refine zcn ?_))
 refine zci rfl ?_
 repeat (first|refine zck ?_|refine zcl ?_|refine zcm ?_|refine zcn ?_|refine zco ?_)
 repeat (first|refine zck ?_|refine zcl ?_|refine zcm ?_|refine zcn ?_)
 first|refine zcp (by kernel_rfl) ?_|refine zcq PP_mixed (by kernel_rfl) (by kernel_rfl) ?_
 repeat' (refine zap rfl ?_; first|refine zan rfl ?_)
 all_goals (refine zch ?_; repeat (first|refine zck ?_|refine zcl ?_|refine zcm ?_|refine zcn ?_))
 repeat (first|refine zck ?_|refine zcl ?_|refine zcm ?_|refine zcn ?_|refine zco ?_)
 repeat (first|refine zck ?_|refine zcl ?_|refine zcm ?_|refine zcn ?_)
 first|refine zcp (by kernel_rfl) ?_|refine zcq PP_mixed (by kernel_rfl) (by kernel_rfl) ?_
 repeat' (refine zap rfl ?_; first|refine zan rfl ?_|refine zaa 0 rfl rfl rfl ?_|refine zah [] hLn rfl rfl rfl zdj rfl ?_|refine zah [] hK rfl rfl rfl (fun p hp => .tail _ hp) rfl ?_)
 all_goals (refine zch ?_; repeat (first|refine zck ?_|refine zcl ?_|refine zcm ?_|refine zcn ?_))
 repeat (first|refine zck ?_|refine zcl ?_|refine zcm ?_|refine zcn ?_|refine zco ?_)
 repeat (first|refine zck ?_|refine zcl ?_|refine zcm ?_|refine zcn ?_)
 first|refine zcp (by kernel_rfl) ?_|refine zcq PP_mixed (by kernel_rfl) (by kernel_rfl) ?_
 repeat' (refine zap rfl ?_; first|refine zdt rfl rfl rfl rfl rfl rfl (fun nb => ?_)|refine zan rfl ?_|(refine zai [1, 0] (hN nb) rfl rfl rfl zdj ?_; rintro v Γ ⟨_, ⟨rfl, rfl⟩, rfl⟩))
 all_goals (refine zch ?_; repeat (first|refine zck ?_|refine zcl ?_|refine zcm ?_|refine zcn ?_))
 refine zec [0] rfl ?_
 repeat (first|refine zck ?_|refine zcl ?_|refine zcm ?_|refine zcn ?_|refine zco ?_)
 repeat (first|refine zck ?_|refine zcl ?_|refine zcm ?_|refine zcn ?_)
 first|refine zcp (by kernel_rfl) ?_|refine zcq PP_mixed (by kernel_rfl) (by kernel_rfl) ?_
 repeat' (refine zap rfl ?_; first|refine zan rfl ?_)
 all_goals (refine zch ?_; repeat (first|refine zck ?_|refine zcl ?_|refine zcm ?_|refine zcn ?_))
 repeat (first|refine zck ?_|refine zcl ?_|refine zcm ?_|refine zcn ?_|refine zco ?_)
 refine run_loop (S := Nat × List Tk) (fun s => [(0, bptr b), (3, .pointer (some ⟨t3, 0, none⟩)), (4, .int .i64 3), (6, .int .i64 0), (22, .int .i64 1), (23, .int .i64 0), (9, .int .i64 ((s.1 : Int) + 1))])
   (fun s Γ => Γ = [bldT b (ts ++ s.2)] ∧ Nums s.2 ∧ s.2.length = s.1 + 2 ∧ s.1 ≤ 3) (fun s => 3 - s.1) (0, [Tk.n 0, Tk.n m.l.sn]) ⟨rfl, rfl, rfl, rfl, zes (by omega), rfl, rfl, trivial⟩ ⟨rfl, nums_map [0, (m.l.sn : Int)], rfl, Nat.zero_le _⟩ ?_
 rintro ⟨j, us⟩ Γ junk ⟨rfl, hus, hul, hj⟩
 dsimp only at hus hul hj ⊢
 by_cases he : j = 3
 · subst he
   repeat (first|refine zck ?_|refine zcl ?_|refine zcm ?_|refine zcn ?_)
   first|refine zcp (by kernel_rfl) ?_|refine zcq PP_mixed (by kernel_rfl) (by kernel_rfl) ?_
   repeat' (refine zap rfl ?_; first|refine zan rfl ?_|refine zbj rfl rfl (by omega) ?_)
   all_goals (refine zch ?_; repeat (first|refine zck ?_|refine zcl ?_|refine zcm ?_|refine zcn ?_))
   refine zcj rfl ?_
   refine zer rfl rfl ?_
   repeat (first|refine zck ?_|refine zcl ?_|refine zcm ?_|refine zcn ?_|refine zco ?_)
   repeat (first|refine zck ?_|refine zcl ?_|refine zcm ?_|refine zcn ?_)
   first|refine zcp (by kernel_rfl) ?_|refine zcq PP_mixed (by kernel_rfl) (by kernel_rfl) ?_
   repeat' (refine zap rfl ?_; first|refine zan rfl ?_|refine zau rfl rfl (by omega) ?_)
   all_goals (refine zch ?_; repeat (first|refine zck ?_|refine zcl ?_|refine zcm ?_|refine zcn ?_))
   repeat (first|refine zck ?_|refine zcl ?_|refine zcm ?_|refine zcn ?_|refine zco ?_)
   repeat (first|refine zck ?_|refine zcl ?_|refine zcm ?_|refine zcn ?_)
   first|refine zcp (by kernel_rfl) ?_|refine zcq PP_mixed (by kernel_rfl) (by kernel_rfl) ?_
   repeat' (refine zap rfl ?_; first|refine zbh rfl rfl (by omega) ?_)
   all_goals (refine zch ?_; repeat (first|refine zck ?_|refine zcl ?_|refine zcm ?_|refine zcn ?_))
   refine zcj rfl ?_
   refine zcs rfl ?_
   exact run_nil (zek (ends_none rfl ⟨rfl, us, hus, by omega, rfl⟩))
 · have hS := hSy j (by omega)
   repeat (first|refine zck ?_|refine zcl ?_|refine zcm ?_|refine zcn ?_)
   first|refine zcp (by kernel_rfl) ?_|refine zcq PP_mixed (by kernel_rfl) (by kernel_rfl) ?_
   repeat' (refine zap rfl ?_; first|refine zan rfl ?_|refine zbi rfl rfl (by omega) ?_)
   all_goals (refine zch ?_; repeat (first|refine zck ?_|refine zcl ?_|refine zcm ?_|refine zcn ?_))
   refine zci rfl ?_
   repeat (first|refine zck ?_|refine zcl ?_|refine zcm ?_|refine zcn ?_|refine zco ?_)
   repeat (first|refine zck ?_|refine zcl ?_|refine zcm ?_|refine zcn ?_)
   first|refine zcp (by kernel_rfl) ?_|refine zcq PP_mixed (by kernel_rfl) (by kernel_rfl) ?_
   repeat' (refine zap rfl ?_; first|refine zar (fun t10 => ?_)|refine zan rfl ?_|refine zaa 0 rfl rfl rfl ?_|refine zah [] hLn rfl rfl rfl zdj rfl ?_|(refine zai [] hS rfl rfl rfl (fun p hp => .tail _ hp) ?_; rintro v Γ ⟨l', rfl, rfl⟩)|refine zae 2 rfl rfl rfl rfl rfl rfl rfl ?_)
   all_goals (refine zch ?_; repeat (first|refine zck ?_|refine zcl ?_|refine zcm ?_|refine zcn ?_))
   repeat (first|refine zck ?_|refine zcl ?_|refine zcm ?_|refine zcn ?_|refine zco ?_)
   refine run_shareQ [0] (fun p hp => .tail _ hp) rfl ?_
   intro bl hs hu hl'
   have hK2 := linKept w0 _ l' cnt hl'
   have hlc2 := hl'.few
   refine zeb [1] rfl ?_
   have hN2 := fun nb => numbersO w0 ht [] b nb (ts ++ us) [0] 2 (fun n hn => by rw [List.mem_singleton.1 hn]; unfold I64; omega) (by show 1 ≤ 100; omega) (by rw [List.length_append]; omega)
   repeat (first|refine zck ?_|refine zcl ?_|refine zcm ?_|refine zcn ?_)
   first|refine zcp (by kernel_rfl) ?_|refine zcq PP_mixed (by kernel_rfl) (by kernel_rfl) ?_
   repeat' (refine zap rfl ?_; first|refine zan rfl ?_|refine zaa 0 rfl rfl rfl ?_|refine zah [] hK2 rfl rfl rfl (fun p hp => .tail _ (hu p hp)) rfl ?_)
   all_goals (refine zch ?_; repeat (first|refine zck ?_|refine zcl ?_|refine zcm ?_|refine zcn ?_))
   repeat (first|refine zck ?_|refine zcl ?_|refine zcm ?_|refine zcn ?_|refine zco ?_)
   repeat (first|refine zck ?_|refine zcl ?_|refine zcm ?_|refine zcn ?_)
   first|refine zcp (by kernel_rfl) ?_|refine zcq PP_mixed (by kernel_rfl) (by kernel_rfl) ?_
   repeat' (refine zap rfl ?_; first|refine zdt rfl rfl rfl rfl rfl rfl (fun nb => ?_)|refine zan rfl ?_|(refine zai [1, 0] (hN2 nb) rfl rfl rfl zdj ?_; rintro v Γ ⟨_, ⟨rfl, rfl⟩, rfl⟩))
   all_goals (refine zch ?_; repeat (first|refine zck ?_|refine zcl ?_|refine zcm ?_|refine zcn ?_))
   refine zec [0] rfl ?_
   repeat (first|refine zck ?_|refine zcl ?_|refine zcm ?_|refine zcn ?_|refine zco ?_)
   repeat (first|refine zck ?_|refine zcl ?_|refine zcm ?_|refine zcn ?_)
   first|refine zcp (by kernel_rfl) ?_|refine zcq PP_mixed (by kernel_rfl) (by kernel_rfl) ?_
   repeat' (refine zap rfl ?_; first|refine zan rfl ?_|refine zau rfl rfl (by omega) ?_)
   all_goals (refine zch ?_; repeat (first|refine zck ?_|refine zcl ?_|refine zcm ?_|refine zcn ?_))
   exact zeq ⟨rfl, (j + 1, us ++ [Tk.n 0]), ⟨rfl, rfl, rfl, rfl, rfl, rfl, zes (by omega), trivial⟩, ⟨by simp, nums_app hus (nums_map [0]), by rw [List.length_append, List.length_singleton]; omega, by omega⟩, by dsimp only; omega⟩
theorem taskGots (sh : Shared) (x : TR) (h : RdCl w0 sh 4 x.a x.g.length (x.g.flatMap gotE)) (hcap : x.g.length ≤ x.c) (hb : x.g.length ≤ 1000) :
   Vc.Fn PP w0 sh 56 [.agg (List.toArray (trE x))] [] (fun r Γ => ∃ a c, r = .slice a x.g.length c ∧ Γ = [SlA 129 4 a x.g.length c (x.g.flatMap gotE)]) := by
 have hone : allOne (x.g.flatMap gotE) = true := by
   generalize x.g = l
   induction l with
   | nil => rfl
   | cons p l ih => rw [List.flatMap_cons]; exact ih
 cases ha : x.a with
 | none =>
   rw [ha] at h
   have hg : x.g.length = 0 := by
     rcases h with ⟨_, h1, _⟩ | ⟨_, _, _, _, _, h1, _⟩
     · exact h1
     · cases h1
   have hg0 := List.length_eq_zero_iff.1 hg
   have hC := cloneGot0 w0 x.c
   have hs : stt x.o x.g = .look := by rw [hg0]; rfl
   rw [trE_look hs, ha, hg, hg0]
   refine zep en56 fn56 rfl rfl rfl ?_
   repeat (first|refine zck ?_|refine zcl ?_|refine zcm ?_|refine zcn ?_)
   first|refine zcp (by kernel_rfl) ?_|refine zcq PP_mixed (by kernel_rfl) (by kernel_rfl) ?_
   repeat' (refine zap rfl ?_; first|refine zan rfl ?_|refine zaq (cs := [_, _, _, _, _, _, _, _, _, _, _]) rfl (fun nb => ?_))
   all_goals (refine zch ?_; repeat (first|refine zck ?_|refine zcl ?_|refine zcm ?_|refine zcn ?_))
   refine zeb [0] rfl ?_
   repeat (first|refine zck ?_|refine zcl ?_|refine zcm ?_|refine zcn ?_)
   first|refine zcp (by kernel_rfl) ?_|refine zcq PP_mixed (by kernel_rfl) (by kernel_rfl) ?_
   repeat' (refine zap rfl ?_; first|refine zan rfl ?_|refine zaa 0 rfl rfl rfl ?_|refine zah [] hC rfl rfl rfl zdj rfl ?_|refine zao rfl ?_)
   all_goals (refine zch ?_; repeat (first|refine zck ?_|refine zcl ?_|refine zcm ?_|refine zcn ?_))
   refine run_nilslice 129 4 ?_
   exact zej rfl ⟨none, 0, rfl, rfl⟩
 | some ad =>
   rw [ha] at h
   have hC := cloneGot w0 sh ad x.c x.g (RdCl.sl (fun _ _ => rfl) h hcap) hone (by omega)
   cases hs : stt x.o x.g
   case look =>
     rw [trE_look hs, ha]
     refine zep en56 fn56 rfl rfl rfl ?_
     repeat (first|refine zck ?_|refine zcl ?_|refine zcm ?_|refine zcn ?_)
     first|refine zcp (by kernel_rfl) ?_|refine zcq PP_mixed (by kernel_rfl) (by kernel_rfl) ?_
     repeat' (refine zap rfl ?_; first|refine zan rfl ?_|refine zaq (cs := [_, _, _, _, _, _, _, _, _, _, _]) rfl (fun nb => ?_))
     all_goals (refine zch ?_; repeat (first|refine zck ?_|refine zcl ?_|refine zcm ?_|refine zcn ?_))
     refine zeb [0] rfl ?_
     repeat (first|refine zck ?_|refine zcl ?_|refine zcm ?_|refine zcn ?_)
     first|refine zcp (by kernel_rfl) ?_|refine zcq PP_mixed (by kernel_rfl) (by kernel_rfl) ?_
     repeat' (refine zap rfl ?_; first|refine zan rfl ?_|refine zaa 0 rfl rfl rfl ?_|(refine zai [] hC rfl rfl rfl (fun p hp => .tail _ hp) ?_; rintro v Γ ⟨a, c, rfl, rfl⟩)|refine zao rfl ?_)
     all_goals (refine zch ?_; repeat (first|refine zck ?_|refine zcl ?_|refine zcm ?_|refine zcn ?_))
     exact zej rfl ⟨a, c, rfl, rfl⟩
   case swap v =>
     rw [trE_swap hs, ha]
     refine zep en56 fn56 rfl rfl rfl ?_
     repeat (first|refine zck ?_|refine zcl ?_|refine zcm ?_|refine zcn ?_)
     first|refine zcp (by kernel_rfl) ?_|refine zcq PP_mixed (by kernel_rfl) (by kernel_rfl) ?_
     repeat' (refine zap rfl ?_; first|refine zan rfl ?_|refine zaq (cs := [_, _, _, _, _, _, _, _, _, _, _]) rfl (fun nb => ?_))
     all_goals (refine zch ?_; repeat (first|refine zck ?_|refine zcl ?_|refine zcm ?_|refine zcn ?_))
     refine zeb [0] rfl ?_
     repeat (first|refine zck ?_|refine zcl ?_|refine zcm ?_|refine zcn ?_)
     first|refine zcp (by kernel_rfl) ?_|refine zcq PP_mixed (by kernel_rfl) (by kernel_rfl) ?_
     repeat' (refine zap rfl ?_; first|refine zan rfl ?_|refine zaa 0 rfl rfl rfl ?_|(refine zai [] hC rfl rfl rfl (fun p hp => .tail _ hp) ?_; rintro v Γ ⟨a, c, rfl, rfl⟩)|refine zao rfl ?_)
     all_goals (refine zch ?_; repeat (first|refine zck ?_|refine zcl ?_|refine zcm ?_|refine zcn ?_))
     exact zej rfl ⟨a, c, rfl, rfl⟩
   case done =>
     rw [trE_done hs, ha]
     refine zep en56 fn56 rfl rfl rfl ?_
     repeat (first|refine zck ?_|refine zcl ?_|refine zcm ?_|refine zcn ?_)
     first|refine zcp (by kernel_rfl) ?_|refine zcq PP_mixed (by kernel_rfl) (by kernel_rfl) ?_
     repeat' (refine zap rfl ?_; first|refine zan rfl ?_|refine zaq (cs := [_, _, _, _, _, _, _, _, _, _, _]) rfl (fun nb => ?_))
     all_goals (refine zch ?_; repeat (first|refine zck ?_|refine zcl ?_|refine zcm ?_|refine zcn ?_))
     refine zeb [0] rfl ?_
     repeat (first|refine zck ?_|refine zcl ?_|refine zcm ?_|refine zcn ?_)
     first|refine zcp (by kernel_rfl) ?_|refine zcq PP_mixed (by kernel_rfl) (by kernel_rfl) ?_
     repeat' (refine zap rfl ?_; first|refine zan rfl ?_|refine zaa 0 rfl rfl rfl ?_|(refine zai [] hC rfl rfl rfl (fun p hp => .tail _ hp) ?_; rintro v Γ ⟨a, c, rfl, rfl⟩)|refine zao rfl ?_)
     all_goals (refine zch ?_; repeat (first|refine zck ?_|refine zcl ?_|refine zcm ?_|refine zcn ?_))
     exact zej rfl ⟨a, c, rfl, rfl⟩
end Go.Proofs.YtikackodhiollaaGreatDoor
namespace Sim.Tx
open Go Go.Vc Sim
theorem TasksT.snoc {g : List (Int × Bool)} {T : List Tk} (hT : TaskT g T) : ∀ {l : List (List (Int × Bool))} {R : List Tk}, TasksT l R → TasksT (l ++ [g]) (R ++ (.c 124 :: T))
 | _, _, .nil => by
   have := TasksT.cons hT .nil
   simpa using this
 | _, _, .cons h1 h2 => by
   have := TasksT.cons h1 (TasksT.snoc hT h2)
   simpa using this
theorem gotT_snoc (g : List (Int × Bool)) (x : Int × Bool) : gotT (g ++ [x]) = gotT g ++ [Tk.n x.1, Tk.n 0, Tk.n 0, Tk.n (if x.2 = true then 1 else 0)] := by
 unfold gotT
 rw [List.flatMap_append]
 simp
theorem gotT_len (g : List (Int × Bool)) : (gotT g).length = 4 * g.length := by
 induction g with
 | nil => rfl
 | cons x g ih =>
   have : gotT (x :: g) = [Tk.n x.1, Tk.n 0, Tk.n 0, Tk.n (if x.2 = true then 1 else 0)] ++ gotT g := rfl
   rw [this, List.length_append, ih]
   simp only [List.length_cons, List.length_nil]
   omega
theorem take_snoc {α : Type} {l : List α} {i : Nat} {x : α} (h : l[i]? = some x) : l.take (i + 1) = l.take i ++ [x] := by
 obtain ⟨hi, e⟩ := List.getElem?_eq_some_iff.1 h
 rw [List.take_succ_eq_append_getElem hi, e]
end Sim.Tx
namespace Go.Proofs.YtikackodhiollaaGreatDoor
variable (w0 : World)
open Go.Vc Sim Sim.Tx
set_option maxHeartbeats 8000000
theorem trE_form (x : TR) : ∃ (c nx : Value) (p a v m : Int), trE x = [c, nx, .int .i64 p, .int .i64 a, .int .i64 v, .int .u32 0, .int .u32 0, .int .i64 m, .int .u32 0, .int .u32 0, .slice x.a x.g.length x.c] := by
 unfold trE
 split <;> exact ⟨_, _, _, _, _, _, rfl⟩
theorem trDoneB (x : TR) : FnE PP w0 [] 55 [.agg (List.toArray (trE x))] [] (.bool (!liveB x)) [] := by
 unfold liveB
 cases hs : stt x.o x.g with
 | done => exact trDoneT w0 x hs
 | look => exact trDone w0 x (by rw [hs]; intro h; cases h)
 | swap v => exact trDone w0 x (by rw [hs]; intro h; cases h)
theorem strT (sh : Shared) (b : Nat) (ts : List Tk) (hts : ts.length ≤ 1000000) : FnE PP w0 sh 58 [bptr b] [bldT b ts] (.string (encT ts)) [] := by
 refine Fn.opened (fun _ : Unit => [bldA b (encT ts)]) (fun _ => ∀ t ∈ ts, t.in64) en58 (fun h hh => ⟨(), hh.1, Stars.one.2 hh.2⟩) (fun _ h64 => ?_)
 have hsz := enc_size h64
 exact buildStr w0 sh b (encT ts) (by omega)
theorem bldT_new {b : Nat} (h : Heap) (hs : Stars [pt b (.cells (List.toArray [.pointer none, .slice none 0 0]) 135 (0, 0)), SlA 5 1 none 0 0 []] h) : bldT b [] h :=
 ⟨fun t ht => (by cases ht), ⟨(.pointer none, none, 0), ⟨.inl rfl, .inr rfl⟩, hs⟩⟩
def KeyF (w0 : World) (sh : Shared) (W : WoS) (a : Tx.Wd) : Prop :=
 Vc.Fn PP w0 sh 29 [woV W] [] (fun r Γ => ∃ x, KeyT a.w0 a.w1 (a.ts.map (·.2)) x ∧ r = .string x ∧ Γ = [])
theorem exKey (ht : TabOk w0) (sh : Shared) (W : WoS) (a : Tx.Wd) (cnt : Nat) (hc : cnt ≤ 1000) (h : RdWo w0 sh W a cnt) : KeyF w0 sh W a := by
 unfold KeyF
 obtain ⟨rows, hrows, hcl, hall⟩ := h.rows
 have hlen : rows.length = W.n := by rw [h.n, ← hrows, List.length_map]
 have hfew : rows.length ≤ 3 := by rw [hlen, h.n]; exact h.few
 have hsl : RdSl w0 sh trE 11 (.slice W.ta rows.length W.tc) rows := by
   have h1 := h.tcap
   rw [← hlen] at hcl h1
   exact RdCl.sl (fun x _ => trE_len x) hcl h1
 have hst := h.stop
 rw [← hlen] at hst
 have hmac := h.mac
 have hg2 : a.ts.map (·.2) = rows.map (·.g) := by rw [← hrows, List.map_map]; rfl
 obtain ⟨m, ta, tc, sa, sc, n⟩ := W
 dsimp only at hlen hsl hst hmac
 subst hlen
 dsimp only [woV]
 refine zep en29 fn29 rfl rfl rfl ?_
 repeat (first|refine zck ?_|refine zcl ?_|refine zcm ?_|refine zcn ?_)
 first|refine zcp (by kernel_rfl) ?_|refine zcq PP_mixed (by kernel_rfl) (by kernel_rfl) ?_
 repeat' (refine zap rfl ?_; first|refine zaq (cs := [_, _, _, _, _, _, _, _, _]) rfl (fun t1 => ?_)|refine zan rfl ?_)
 all_goals (refine zch ?_; repeat (first|refine zck ?_|refine zcl ?_|refine zcm ?_|refine zcn ?_))
 refine zeb [0] rfl ?_
 repeat (first|refine zck ?_|refine zcl ?_|refine zcm ?_|refine zcn ?_)
 first|refine zcp (by kernel_rfl) ?_|refine zcq PP_mixed (by kernel_rfl) (by kernel_rfl) ?_
 repeat' (refine zap rfl ?_; first|refine zar (fun t3 => ?_))
 all_goals (refine zch ?_; repeat (first|refine zck ?_|refine zcl ?_|refine zcm ?_|refine zcn ?_))
 refine run_nilslice 5 1 ?_
 refine run_close (A := bldT t3 []) [0, 0] rfl bldT_new ?_
 have hMem := exMemory w0 ht sh t3 [] m a.w0 a.w1 cnt hc hmac (by decide)
 repeat (first|refine zck ?_|refine zcl ?_|refine zcm ?_|refine zcn ?_|refine zco ?_)
 repeat (first|refine zck ?_|refine zcl ?_|refine zcm ?_|refine zcn ?_)
 first|refine zcp (by kernel_rfl) ?_|refine zcq PP_mixed (by kernel_rfl) (by kernel_rfl) ?_
 repeat' (refine zap rfl ?_; first|refine zaa 0 rfl rfl rfl ?_|(refine zai [0] hMem rfl rfl rfl (fun p hp => .tail _ hp) ?_; rintro v Γ ⟨rfl, us, hus, hul, rfl⟩)|refine zao rfl ?_)
 all_goals (refine zch ?_; repeat (first|refine zck ?_|refine zcl ?_|refine zcm ?_|refine zcn ?_))
 rw [List.nil_append]
 have hS1 := signT w0 [] t3 us 124 (by omega)
 repeat (first|refine zck ?_|refine zcl ?_|refine zcm ?_|refine zcn ?_|refine zco ?_)
 repeat (first|refine zck ?_|refine zcl ?_|refine zcm ?_|refine zcn ?_)
 first|refine zcp (by kernel_rfl) ?_|refine zcq PP_mixed (by kernel_rfl) (by kernel_rfl) ?_
 repeat' (refine zap rfl ?_; first|refine zah [0] hS1 rfl rfl rfl zdj rfl ?_)
 all_goals (refine zch ?_; repeat (first|refine zck ?_|refine zcl ?_|refine zcm ?_|refine zcn ?_))
 have hLi := exLines w0 ht sh t3 (us ++ [Tk.c 124]) m a.w0 a.w1 cnt hc hmac (by rw [List.length_append, List.length_singleton]; omega)
 repeat (first|refine zck ?_|refine zcl ?_|refine zcm ?_|refine zcn ?_|refine zco ?_)
 repeat (first|refine zck ?_|refine zcl ?_|refine zcm ?_|refine zcn ?_)
 first|refine zcp (by kernel_rfl) ?_|refine zcq PP_mixed (by kernel_rfl) (by kernel_rfl) ?_
 repeat' (refine zap rfl ?_; first|refine zaa 0 rfl rfl rfl ?_|(refine zai [0] hLi rfl rfl rfl (fun p hp => .tail _ hp) ?_; rintro v Γ ⟨rfl, ls, hls, hll, rfl⟩)|refine zao rfl ?_)
 all_goals (refine zch ?_; repeat (first|refine zck ?_|refine zcl ?_|refine zcm ?_|refine zcn ?_))
 repeat (first|refine zck ?_|refine zcl ?_|refine zcm ?_|refine zcn ?_|refine zco ?_)
 repeat (first|refine zck ?_|refine zcl ?_|refine zcm ?_|refine zcn ?_)
 first|refine zcp (by kernel_rfl) ?_|refine zcq PP_mixed (by kernel_rfl) (by kernel_rfl) ?_
 repeat' (refine zap rfl ?_; first|refine zan rfl ?_|refine zaa 0 rfl rfl rfl ?_|refine zce rfl ?_|refine zao rfl ?_)
 all_goals (refine zch ?_; repeat (first|refine zck ?_|refine zcl ?_|refine zcm ?_|refine zcn ?_))
 repeat (first|refine zck ?_|refine zcl ?_|refine zcm ?_|refine zcn ?_|refine zco ?_)
 obtain ⟨ts, hts⟩ : ∃ ts, us ++ [Tk.c 124] ++ ls = ts := ⟨_, rfl⟩
 have htl : ts.length ≤ 30011 := by rw [← hts]; simp only [List.length_append, List.length_singleton]; omega
 rw [hts]
 refine run_loop (S := Nat × List Tk) (fun s => [(1, .pointer (some ⟨t1, 0, none⟩)), (3, bptr t3), (16, .slice ta rows.length tc), (17, .int .i64 rows.length), (18, .int .i64 s.1)])
   (fun s Γ => Γ = [bldT t3 (ts ++ s.2)] ∧ TasksT ((rows.take s.1).map (·.g)) s.2 ∧ s.2.length ≤ s.1 * 4003 ∧ s.1 ≤ rows.length) (fun s => rows.length - s.1) (0, []) ⟨rfl, rfl, rfl, rfl, rfl, trivial⟩ ⟨by rw [List.append_nil]; rfl, .nil, Nat.zero_le _, Nat.zero_le _⟩ ?_
 rintro ⟨i, R⟩ Γ junk ⟨rfl, hR, hRl, hi⟩
 dsimp only at hR hRl hi ⊢
 by_cases he : i = rows.length
 · subst he
   have hSt := strT w0 [] t3 (ts ++ R) (by rw [List.length_append]; omega)
   repeat (first|refine zck ?_|refine zcl ?_|refine zcm ?_|refine zcn ?_)
   first|refine zcp (by kernel_rfl) ?_|refine zcq PP_mixed (by kernel_rfl) (by kernel_rfl) ?_
   repeat' (refine zap rfl ?_; first|refine zbh rfl rfl (by omega) ?_)
   all_goals (refine zch ?_; repeat (first|refine zck ?_|refine zcl ?_|refine zcm ?_|refine zcn ?_))
   refine zcj rfl ?_
   refine zer rfl rfl ?_
   repeat (first|refine zck ?_|refine zcl ?_|refine zcm ?_|refine zcn ?_|refine zco ?_)
   repeat (first|refine zck ?_|refine zcl ?_|refine zcm ?_|refine zcn ?_)
   first|refine zcp (by kernel_rfl) ?_|refine zcq PP_mixed (by kernel_rfl) (by kernel_rfl) ?_
   repeat' (refine zap rfl ?_; first|refine zan rfl ?_|refine zah [0] hSt rfl rfl rfl zdj rfl ?_)
   all_goals (refine zch ?_; repeat (first|refine zck ?_|refine zcl ?_|refine zcm ?_|refine zcn ?_))
   rw [List.take_length] at hR
   obtain ⟨P0, P1, V, k1, k2, k3, rfl⟩ := hus
   refine zej rfl ⟨_, ⟨P0, P1, V, ls, R, k1, k2, k3, hls, by rw [hg2]; exact hR, ?_⟩, rfl, rfl⟩
   unfold encT
   rw [← hts]
   congr 3
   simp
 · obtain ⟨x, hx⟩ : ∃ x, rows[i]? = some x := ⟨_, List.getElem?_eq_getElem (by omega)⟩
   have htr := hall x (List.mem_of_getElem? hx)
   obtain ⟨bb, off, cc, T, fr, ea, e2, e3, _⟩ := hsl.cells hx
   subst ea
   obtain ⟨bb', off', cc', T', fr', ea', f2, _, f3⟩ := hst.cells (i := i) (x := false) (by rw [List.getElem?_replicate, if_pos (by omega)])
   subst ea'
   have hD := trDoneB w0 x
   have hB1 := bitT w0 (!liveB x)
   have hB0 := bitT w0 false
   have hgl : x.g.length ≤ 1000 := by have := htr.few; omega
   have hGt := taskGots w0 sh x htr.cl htr.cap hgl
   have hS2 := signT w0 [] t3 (ts ++ R) 124 (by rw [List.length_append]; omega)
   have hN := fun nb => numbersO w0 ht [] t3 nb (ts ++ R ++ [Tk.c 124]) [if (!liveB x) = true then 1 else 0, 0] 2 (fun n hn => by
     simp only [List.mem_cons, List.not_mem_nil, or_false] at hn
     unfold I64
     rcases hn with rfl | rfl
     · split <;> omega
     · omega) (by show 2 ≤ 100; omega) (by simp only [List.length_append, List.length_singleton]; omega)
   have hone := trE_one x
   obtain ⟨tc1, tc2, tp, tad, tv, tm, hE⟩ := trE_form x
   rw [hE] at hone e3 hD hGt
   repeat (first|refine zck ?_|refine zcl ?_|refine zcm ?_|refine zcn ?_)
   first|refine zcp (by kernel_rfl) ?_|refine zcq PP_mixed (by kernel_rfl) (by kernel_rfl) ?_
   repeat' (refine zap rfl ?_; first|refine zbg rfl rfl (by omega) ?_)
   all_goals (refine zch ?_; repeat (first|refine zck ?_|refine zcl ?_|refine zcm ?_|refine zcn ?_))
   refine zci rfl ?_
   repeat (first|refine zck ?_|refine zcl ?_|refine zcm ?_|refine zcn ?_|refine zco ?_)
   repeat (first|refine zck ?_|refine zcl ?_|refine zcm ?_|refine zcn ?_)
   first|refine zcp (by kernel_rfl) ?_|refine zcq PP_mixed (by kernel_rfl) (by kernel_rfl) ?_
   repeat' (refine zap rfl ?_; first|refine zas rfl rfl (by omega) ?_|refine zar (fun t5 => ?_)|refine zae 1 rfl rfl rfl rfl hone rfl rfl ?_|refine zad rfl (fun hF Γ w h1 h2 => e2 hF Γ w (fun p hp => h1 p (.tail _ hp)) h2) (e3 _ (by omega)) ?_|refine zan rfl ?_)
   all_goals (refine zch ?_; repeat (first|refine zck ?_|refine zcl ?_|refine zcm ?_|refine zcn ?_))
   repeat (first|refine zck ?_|refine zcl ?_|refine zcm ?_|refine zcn ?_|refine zco ?_)
   refine zeb [1] rfl ?_
   repeat (first|refine zck ?_|refine zcl ?_|refine zcm ?_|refine zcn ?_)
   first|refine zcp (by kernel_rfl) ?_|refine zcq PP_mixed (by kernel_rfl) (by kernel_rfl) ?_
   repeat' (refine zap rfl ?_; first|refine zah [0] hS2 rfl rfl rfl zdj rfl ?_)
   all_goals (refine zch ?_; repeat (first|refine zck ?_|refine zcl ?_|refine zcm ?_|refine zcn ?_))
   repeat (first|refine zck ?_|refine zcl ?_|refine zcm ?_|refine zcn ?_|refine zco ?_)
   repeat (first|refine zck ?_|refine zcl ?_|refine zcm ?_|refine zcn ?_)
   first|refine zcp (by kernel_rfl) ?_|refine zcq PP_mixed (by kernel_rfl) (by kernel_rfl) ?_
   repeat' (refine zap rfl ?_; first|refine zas rfl rfl (by omega) ?_|refine zad rfl (fun hF Γ w h1 h2 => f2 hF Γ w (fun p hp => h1 p (.tail _ (.tail _ hp))) h2) (f3 0 _ rfl _ (by omega)) ?_|refine zdt rfl rfl rfl rfl rfl rfl (fun nb => ?_)|refine zaj rfl ?_|refine zan rfl ?_|refine zaa 0 rfl rfl rfl ?_|refine zaa 1 rfl rfl rfl ?_|refine zce rfl ?_|refine zah [] hD rfl rfl rfl zdj rfl ?_|refine zah [] hB1 rfl rfl rfl zdj rfl ?_|refine zah [] hB0 rfl rfl rfl zdj rfl ?_|(refine zai [1, 0] (hN nb) rfl rfl rfl zdj ?_; rintro v Γ ⟨_, ⟨rfl, rfl⟩, rfl⟩)|refine zao rfl ?_|refine zbg rfl rfl (by omega) ?_|refine zbu rfl ?_)
   all_goals (refine zch ?_; repeat (first|refine zck ?_|refine zcl ?_|refine zcm ?_|refine zcn ?_))
   refine zec [0] rfl ?_
   repeat (first|refine zck ?_|refine zcl ?_|refine zcm ?_|refine zcn ?_|refine zco ?_)
   repeat (first|refine zck ?_|refine zcl ?_|refine zcm ?_|refine zcn ?_)
   first|refine zcp (by kernel_rfl) ?_|refine zcq PP_mixed (by kernel_rfl) (by kernel_rfl) ?_
   repeat' (refine zap rfl ?_; first|refine zan rfl ?_|refine zaa 0 rfl rfl rfl ?_|refine zce rfl ?_|(refine zai [] hGt rfl rfl rfl (fun p hp => .tail _ (.tail _ hp)) ?_; rintro v Γ ⟨ga, gc, rfl, rfl⟩))
   all_goals (refine zch ?_; repeat (first|refine zck ?_|refine zcl ?_|refine zcm ?_|refine zcn ?_))
   repeat (first|refine zck ?_|refine zcl ?_|refine zcm ?_|refine zcn ?_|refine zco ?_)
   refine run_shareP [0] (fun s => RdCl w0 s 4 ga x.g.length (x.g.flatMap gotE) ∧ x.g.length ≤ gc) RdO.ofCl rfl ?_
   intro bl hs hgc
   have hgrow : RdSl w0 _ gotE 4 (.slice ga x.g.length gc) x.g := RdCl.sl (fun _ _ => rfl) hgc.1 hgc.2
   obtain ⟨dv, hdv⟩ : ∃ dv : Int, dv = if (!liveB x) = true then 1 else 0 := ⟨_, rfl⟩
   have hdv2 : ts ++ R ++ [Tk.c 124] ++ [if (!liveB x) = true then (1 : Int) else 0, 0].map Tk.n = ts ++ R ++ [Tk.c 124, Tk.n dv, Tk.n 0] := by rw [hdv]; simp
   rw [hdv2]
   refine run_loop (S := Nat) (fun j => [(1, .pointer (some ⟨t1, 0, none⟩)), (3, bptr t3), (16, .slice (some ⟨bb, off, none⟩) rows.length tc), (17, .int .i64 rows.length), (18, .int .i64 i), (43, .slice ga x.g.length gc), (44, .int .i64 x.g.length), (45, .int .i64 j)])
     (fun j Γ => Γ = [bldT t3 (ts ++ R ++ [Tk.c 124, Tk.n dv, Tk.n 0] ++ gotT (x.g.take j))] ∧ j ≤ x.g.length) (fun j => x.g.length - j) 0 ⟨rfl, rfl, rfl, rfl, rfl, rfl, rfl, rfl, trivial⟩ ⟨by rw [List.take_zero]; show _ = [bldT t3 (_ ++ [])]; rw [List.append_nil]; rfl, Nat.zero_le _⟩ ?_
   rintro j Γ junk2 ⟨rfl, hj⟩
   by_cases he2 : j = x.g.length
   · subst he2
     repeat (first|refine zck ?_|refine zcl ?_|refine zcm ?_|refine zcn ?_)
     first|refine zcp (by kernel_rfl) ?_|refine zcq PP_mixed (by kernel_rfl) (by kernel_rfl) ?_
     repeat' (refine zap rfl ?_; first|refine zbh rfl rfl (by omega) ?_)
     all_goals (refine zch ?_; repeat (first|refine zck ?_|refine zcl ?_|refine zcm ?_|refine zcn ?_))
     refine zcj rfl ?_
     refine zer rfl rfl ?_
     repeat (first|refine zck ?_|refine zcl ?_|refine zcm ?_|refine zcn ?_|refine zco ?_)
     repeat (first|refine zck ?_|refine zcl ?_|refine zcm ?_|refine zcn ?_)
     first|refine zcp (by kernel_rfl) ?_|refine zcq PP_mixed (by kernel_rfl) (by kernel_rfl) ?_
     repeat' (refine zap rfl ?_; first|refine zan rfl ?_|refine zau rfl rfl (by omega) ?_)
     all_goals (refine zch ?_; repeat (first|refine zck ?_|refine zcl ?_|refine zcm ?_|refine zcn ?_))
     rw [List.take_length]
     refine zeq ⟨rfl, (i + 1, R ++ (Tk.c 124 :: (Tk.n dv :: Tk.n 0 :: gotT x.g))), ⟨rfl, rfl, rfl, rfl, zes (by omega), trivial⟩, ⟨by simp, ?_, ?_, by omega⟩, by dsimp only; omega⟩
     · rw [take_snoc hx, List.map_append]
       exact hR.snoc ⟨dv, 0, rfl⟩
     · have := htr.few
       simp only [List.length_append, List.length_cons, gotT_len]
       omega
   · obtain ⟨p, hp⟩ : ∃ p, x.g[j]? = some p := ⟨_, List.getElem?_eq_getElem (by omega)⟩
     obtain ⟨gb, goff, gcc, gT, gfr, gea, g2, g3, _⟩ := hgrow.cells hp
     subst gea
     have hpi := htr.vs p (List.mem_of_getElem? hp)
     have hlen2 : (ts ++ R ++ [Tk.c 124, Tk.n dv, Tk.n 0] ++ gotT (x.g.take j)).length ≤ 100000 := by
       simp only [List.length_append, List.length_cons, List.length_nil, gotT_len, List.length_take]
       omega
     have hRw := rawT w0 ht [] t3 (ts ++ R ++ [Tk.c 124, Tk.n dv, Tk.n 0] ++ gotT (x.g.take j)) p.1 hpi (by omega)
     have hB := bitT w0 p.2
     have hN2 := fun nb => numbersO w0 ht [] t3 nb (ts ++ R ++ [Tk.c 124, Tk.n dv, Tk.n 0] ++ gotT (x.g.take j) ++ [Tk.n p.1, Tk.n 0, Tk.n 0]) [if p.2 = true then 1 else 0] 2 (fun n hn => by
       rw [List.mem_singleton.1 hn]; unfold I64; split <;> omega) (by show 1 ≤ 100; omega) (by rw [List.length_append]; simp only [List.length_cons, List.length_nil]; omega)
     obtain ⟨pv, pk⟩ := p
     dsimp only at hRw hB hN2
     repeat (first|refine zck ?_|refine zcl ?_|refine zcm ?_|refine zcn ?_)
     first|refine zcp (by kernel_rfl) ?_|refine zcq PP_mixed (by kernel_rfl) (by kernel_rfl) ?_
     repeat' (refine zap rfl ?_; first|refine zbg rfl rfl (by omega) ?_)
     all_goals (refine zch ?_; repeat (first|refine zck ?_|refine zcl ?_|refine zcm ?_|refine zcn ?_))
     refine zci rfl ?_
     repeat (first|refine zck ?_|refine zcl ?_|refine zcm ?_|refine zcn ?_|refine zco ?_)
     repeat (first|refine zck ?_|refine zcl ?_|refine zcm ?_|refine zcn ?_)
     first|refine zcp (by kernel_rfl) ?_|refine zcq PP_mixed (by kernel_rfl) (by kernel_rfl) ?_
     repeat' (refine zap rfl ?_; first|refine zas rfl rfl (by omega) ?_|refine zar (fun t7 => ?_)|refine zad rfl g2 (g3 _ (by omega)) ?_|refine zae 1 rfl rfl rfl rfl rfl rfl rfl ?_)
     all_goals (refine zch ?_; repeat (first|refine zck ?_|refine zcl ?_|refine zcm ?_|refine zcn ?_))
     repeat (first|refine zck ?_|refine zcl ?_|refine zcm ?_|refine zcn ?_|refine zco ?_)
     refine zeb [1] rfl ?_
     repeat (first|refine zck ?_|refine zcl ?_|refine zcm ?_|refine zcn ?_)
     first|refine zcp (by kernel_rfl) ?_|refine zcq PP_mixed (by kernel_rfl) (by kernel_rfl) ?_
     repeat' (refine zap rfl ?_; first|refine zaa 0 rfl rfl rfl ?_|refine zah [0] hRw rfl rfl rfl zdj rfl ?_|refine zao rfl ?_)
     all_goals (refine zch ?_; repeat (first|refine zck ?_|refine zcl ?_|refine zcm ?_|refine zcn ?_))
     repeat (first|refine zck ?_|refine zcl ?_|refine zcm ?_|refine zcn ?_|refine zco ?_)
     repeat (first|refine zck ?_|refine zcl ?_|refine zcm ?_|refine zcn ?_)
     first|refine zcp (by kernel_rfl) ?_|refine zcq PP_mixed (by kernel_rfl) (by kernel_rfl) ?_
     repeat' (refine zap rfl ?_; first|refine zdt rfl rfl rfl rfl rfl rfl (fun nb => ?_)|refine zaa 0 rfl rfl rfl ?_|refine zah [] hB rfl rfl rfl zdj rfl ?_|(refine zai [1, 0] (hN2 nb) rfl rfl rfl zdj ?_; rintro v Γ ⟨_, ⟨rfl, rfl⟩, rfl⟩)|refine zao rfl ?_)
     all_goals (refine zch ?_; repeat (first|refine zck ?_|refine zcl ?_|refine zcm ?_|refine zcn ?_))
     refine zec [0] rfl ?_
     repeat (first|refine zck ?_|refine zcl ?_|refine zcm ?_|refine zcn ?_|refine zco ?_)
     repeat (first|refine zck ?_|refine zcl ?_|refine zcm ?_|refine zcn ?_)
     first|refine zcp (by kernel_rfl) ?_|refine zcq PP_mixed (by kernel_rfl) (by kernel_rfl) ?_
     repeat' (refine zap rfl ?_; first|refine zan rfl ?_|refine zau rfl rfl (by omega) ?_)
     all_goals (refine zch ?_; repeat (first|refine zck ?_|refine zcl ?_|refine zcm ?_|refine zcn ?_))
     exact zeq ⟨rfl, j + 1, ⟨rfl, rfl, rfl, rfl, rfl, rfl, rfl, zes (by omega), trivial⟩, ⟨by rw [take_snoc hp, gotT_snoc]; simp, by omega⟩, by omega⟩
end Go.Proofs.YtikackodhiollaaGreatDoor
namespace Sim.Tx
open Go Go.Vc Sim
theorem live_at {a : Tx.Wd} {i : Nat} {o : AO} {g : Gots} (h : a.ts[i]? = some (o, g)) : a.live i = (match stt o g with | .done => false | _ => true) := by
 unfold Tx.Wd.live Tx.Wd.stt
 rw [h]
 rfl
def stepsTo (a : Tx.Wd) (j : Nat) : List Nat := (List.range j).filter a.live
theorem stepsTo_succ (a : Tx.Wd) (j : Nat) : stepsTo a (j + 1) = if a.live j = true then stepsTo a j ++ [j] else stepsTo a j := by
 unfold stepsTo
 rw [List.range_succ, List.filter_append]
 by_cases h : a.live j = true
 · rw [if_pos h, List.filter_cons, if_pos h, List.filter_nil]
 · rw [if_neg h, List.filter_cons, if_neg h, List.filter_nil, List.append_nil]
theorem stepsTo_len (a : Tx.Wd) (j : Nat) : (stepsTo a j).length ≤ j := by
 have := List.length_filter_le a.live (List.range j)
 rwa [List.length_range] at this
def stE (i : Nat) : List Value := [.int .i64 ((i : Int) + 1), .int .i64 0]
end Sim.Tx
namespace Go.Proofs.YtikackodhiollaaGreatDoor
variable (w0 : World)
open Go.Vc Sim Sim.Tx
set_option maxHeartbeats 8000000
theorem act_form (x : TR) : ∃ (op ad v n : Int), actOf x = actV op ad v n ∧ (liveB x = true → op = 5 ∨ op = 6) := by
 unfold actOf liveB
 cases hs : stt x.o x.g with
 | look => exact ⟨_, _, _, _, rfl, fun _ => .inl rfl⟩
 | swap v => exact ⟨_, _, _, _, rfl, fun _ => .inr rfl⟩
 | done => exact ⟨_, _, _, _, rfl, fun h => by cases h⟩
theorem exPending (sh : Shared) (W : WoS) (a : Tx.Wd) (cnt : Nat) (h : RdWo w0 sh W a cnt) (i : Nat) (x : TR) (rows : List TR) (hlen : rows.length = W.n) (hsl : RdSl w0 sh trE 11 (.slice W.ta W.n W.tc) rows) (hx : rows[i]? = some x) :
   FnE PP w0 sh 59 [woV W, .int .i64 ((i : Int) + 1)] [] (.tuple #[actOf x, .bool (liveB x)]) [] := by
 have hil : i < rows.length := (List.getElem?_eq_some_iff.1 hx).1
 have hfew : W.n ≤ 3 := by rw [h.n]; exact h.few
 have hst := h.stop
 have hA := trAct w0 x
 obtain ⟨op, ad, v, n, hact, _⟩ := act_form x
 rw [hact] at hA ⊢
 rw [← hlen] at hsl
 obtain ⟨bb, off, cc, T, fr, ea, e2, e3, _⟩ := hsl.cells hx
 obtain ⟨bb', off', cc', T', fr', ea', f2, _, f3⟩ := hst.cells (i := i) (x := false) (by rw [List.getElem?_replicate, if_pos (by omega)])
 obtain ⟨m, ta, tc, sa, sc, N⟩ := W
 dsimp only [woV] at ea ea' hlen hfew ⊢
 subst ea
 subst ea'
 subst hlen
 refine zep en59 fn59 rfl rfl rfl ?_
 repeat (first|refine zck ?_|refine zcl ?_|refine zcm ?_|refine zcn ?_)
 first|refine zcp (by kernel_rfl) ?_|refine zcq PP_mixed (by kernel_rfl) (by kernel_rfl) ?_
 repeat' (refine zap rfl ?_; first|refine zar (fun t4 => ?_)|refine zan rfl ?_|refine zaq (cs := [_, _, _, _, _, _, _, _, _]) rfl (fun nb => ?_))
 all_goals (refine zch ?_; repeat (first|refine zck ?_|refine zcl ?_|refine zcm ?_|refine zcn ?_))
 refine zeb [0] rfl ?_
 repeat (first|refine zck ?_|refine zcl ?_|refine zcm ?_|refine zcn ?_)
 first|refine zcp (by kernel_rfl) ?_|refine zcq PP_mixed (by kernel_rfl) (by kernel_rfl) ?_
 repeat' (refine zap rfl ?_; first|refine zas rfl rfl (by omega) ?_|refine zad rfl (fun hF Γ w h1 h2 => f2 hF Γ w (fun p hp => h1 p (.tail _ hp)) h2) (f3 0 _ rfl _ (by omega)) ?_|refine zaj rfl ?_|refine zan rfl ?_|refine zaa 0 rfl rfl rfl ?_|refine zce rfl ?_|refine zao rfl ?_|refine zbh rfl rfl (by omega) ?_|refine zbl rfl rfl (by omega) ?_|refine zav rfl rfl (by omega) ?_|refine zbv rfl ?_)
 all_goals (refine zch ?_; repeat (first|refine zck ?_|refine zcl ?_|refine zcm ?_|refine zcn ?_))
 refine zcj rfl ?_
 repeat (first|refine zck ?_|refine zcl ?_|refine zcm ?_|refine zcn ?_|refine zco ?_)
 repeat (first|refine zck ?_|refine zcl ?_|refine zcm ?_|refine zcn ?_)
 first|refine zcp (by kernel_rfl) ?_|refine zcq PP_mixed (by kernel_rfl) (by kernel_rfl) ?_
 repeat' (refine zap rfl ?_; first|refine zas rfl rfl (by omega) ?_|refine zad rfl (fun hF Γ w h1 h2 => e2 hF Γ w (fun p hp => h1 p (.tail _ hp)) h2) (e3 _ (by omega)) ?_|refine zan rfl ?_|refine zaa 0 rfl rfl rfl ?_|refine zah [] hA rfl rfl rfl zdj rfl ?_|refine zao rfl ?_|refine zav rfl rfl (by omega) ?_|refine zae 0 rfl rfl rfl rfl rfl rfl rfl ?_)
 all_goals (refine zch ?_; repeat (first|refine zck ?_|refine zcl ?_|refine zcm ?_|refine zcn ?_))
 repeat (first|refine zck ?_|refine zcl ?_|refine zcm ?_|refine zcn ?_|refine zco ?_)
 exact zeg (zek (zel [] rfl (zen rfl (zeo 0 rfl rfl rfl) rfl ⟨rfl, rfl, rfl⟩)))
theorem exChoices (m : MacS) (t : Int) (op ad v n : Int) (hop : op = 5 ∨ op = 6) : FnE PP w0 [] 60 [macV m, .int .i64 t, actV op ad v n] [] (.int .i64 1) [] := by
 have h1 : op ≠ 1 ∧ op ≠ 2 := by omega
 refine zep en60 fn60 rfl rfl rfl ?_
 repeat (first|refine zck ?_|refine zcl ?_|refine zcm ?_|refine zcn ?_)
 first|refine zcp (by kernel_rfl) ?_|refine zcq PP_mixed (by kernel_rfl) (by kernel_rfl) ?_
 repeat' (refine zap rfl ?_; first|refine zan rfl ?_|refine zaq (cs := [_, _, _, _, _, _, _]) rfl (fun nb => ?_)|refine zaq (cs := [_, _, _, _, _, _, _, _]) rfl (fun nb => ?_))
 all_goals (refine zch ?_; repeat (first|refine zck ?_|refine zcl ?_|refine zcm ?_|refine zcn ?_))
 refine zeb [0] rfl ?_
 refine zeb [0] rfl ?_
 repeat (first|refine zck ?_|refine zcl ?_|refine zcm ?_|refine zcn ?_)
 first|refine zcp (by kernel_rfl) ?_|refine zcq PP_mixed (by kernel_rfl) (by kernel_rfl) ?_
 repeat' (refine zap rfl ?_; first|refine zaj rfl ?_|refine zan rfl ?_|refine zaa 0 rfl rfl rfl ?_|refine zao rfl ?_|refine zbe rfl rfl (by omega) ?_|refine zbu rfl ?_)
 all_goals (refine zch ?_; repeat (first|refine zck ?_|refine zcl ?_|refine zcm ?_|refine zcn ?_))
 refine zci rfl ?_
 repeat (first|refine zck ?_|refine zcl ?_|refine zcm ?_|refine zcn ?_|refine zco ?_)
 repeat (first|refine zck ?_|refine zcl ?_|refine zcm ?_|refine zcn ?_)
 first|refine zcp (by kernel_rfl) ?_|refine zcq PP_mixed (by kernel_rfl) (by kernel_rfl) ?_
 repeat' (refine zap rfl ?_; first|refine zan rfl ?_)
 all_goals (refine zch ?_; repeat (first|refine zck ?_|refine zcl ?_|refine zcm ?_|refine zcn ?_))
 exact zej rfl ⟨rfl, rfl⟩
theorem exSteps (sh : Shared) (W : WoS) (a : Tx.Wd) (cnt : Nat) (h : RdWo w0 sh W a cnt) :
   Vc.Fn PP w0 sh 30 [woV W] [] (fun r Γ => ∃ ad c, r = .slice ad a.steps.length c ∧ Γ = [SlA 106 2 ad a.steps.length c (a.steps.flatMap stE)]) := by
 have hfew : W.n ≤ 3 := by rw [h.n]; exact h.few
 have hn := h.n
 have hP := fun i x rows h1 h2 h3 => exPending w0 sh W a cnt h i x rows h1 h2 h3
 have hat := fun i hi => h.at (i := i) hi
 have hC := fun t op ad v n hop => exChoices w0 W.m t op ad v n hop
 have hst0 : stepsTo a 0 = [] := rfl
 have hend : a.steps = stepsTo a W.n := by rw [hn]; rfl
 rw [hend]
 obtain ⟨m, ta, tc, sa, sc, N⟩ := W
 dsimp only [woV] at hfew hn hP hat hC ⊢
 refine zep en30 fn30 rfl rfl rfl ?_
 repeat (first|refine zck ?_|refine zcl ?_|refine zcm ?_|refine zcn ?_)
 first|refine zcp (by kernel_rfl) ?_|refine zcq PP_mixed (by kernel_rfl) (by kernel_rfl) ?_
 repeat' (refine zap rfl ?_; first|refine zaq (cs := [_, _, _, _, _, _, _, _, _]) rfl (fun t1 => ?_)|refine zan rfl ?_)
 all_goals (refine zch ?_; repeat (first|refine zck ?_|refine zcl ?_|refine zcm ?_|refine zcn ?_))
 refine zeb [0] rfl ?_
 repeat (first|refine zck ?_|refine zcl ?_|refine zcm ?_|refine zcn ?_)
 first|refine zcp (by kernel_rfl) ?_|refine zcq PP_mixed (by kernel_rfl) (by kernel_rfl) ?_
 repeat' (refine zap rfl ?_; first|refine zan rfl ?_)
 all_goals (refine zch ?_; repeat (first|refine zck ?_|refine zcl ?_|refine zcm ?_|refine zcn ?_))
 repeat (first|refine zck ?_|refine zcl ?_|refine zcm ?_|refine zcn ?_|refine zco ?_)
 repeat (first|refine zck ?_|refine zcl ?_|refine zcm ?_|refine zcn ?_)
 first|refine zcp (by kernel_rfl) ?_|refine zcq PP_mixed (by kernel_rfl) (by kernel_rfl) ?_
 repeat' (refine zap rfl ?_; first|refine zan rfl ?_)
 all_goals (refine zch ?_; repeat (first|refine zck ?_|refine zcl ?_|refine zcm ?_|refine zcn ?_))
 repeat (first|refine zck ?_|refine zcl ?_|refine zcm ?_|refine zcn ?_|refine zco ?_)
 refine run_nilslice 106 2 ?_
 refine run_loop (S := Nat × Option Addr × Nat) (fun s => [(1, .pointer (some ⟨t1, 0, none⟩)), (3, .slice s.2.1 (stepsTo a s.1).length s.2.2), (4, .int .i64 ((s.1 : Int) + 1))])
   (fun s Γ => Γ = [SlA 106 2 s.2.1 (stepsTo a s.1).length s.2.2 ((stepsTo a s.1).flatMap stE)] ∧ s.1 ≤ N) (fun s => N - s.1) (0, none, 0) ⟨rfl, rfl, rfl, trivial⟩ ⟨rfl, Nat.zero_le _⟩ ?_
 rintro ⟨j, sa1, sc1⟩ Γ junk ⟨rfl, hj⟩
 dsimp only at hj ⊢
 have hsl := stepsTo_len a j
 by_cases he : j = N
 · subst he
   repeat (first|refine zck ?_|refine zcl ?_|refine zcm ?_|refine zcn ?_)
   first|refine zcp (by kernel_rfl) ?_|refine zcq PP_mixed (by kernel_rfl) (by kernel_rfl) ?_
   repeat' (refine zap rfl ?_; first|refine zan rfl ?_|refine zaa 0 rfl rfl rfl ?_|refine zce rfl ?_|refine zao rfl ?_|refine zbj rfl rfl (by omega) ?_)
   all_goals (refine zch ?_; repeat (first|refine zck ?_|refine zcl ?_|refine zcm ?_|refine zcn ?_))
   refine zcj rfl ?_
   refine zer rfl rfl ?_
   repeat (first|refine zck ?_|refine zcl ?_|refine zcm ?_|refine zcn ?_|refine zco ?_)
   repeat (first|refine zck ?_|refine zcl ?_|refine zcm ?_|refine zcn ?_)
   first|refine zcp (by kernel_rfl) ?_|refine zcq PP_mixed (by kernel_rfl) (by kernel_rfl) ?_
   repeat' (refine zap rfl ?_; first|refine zan rfl ?_)
   all_goals (refine zch ?_; repeat (first|refine zck ?_|refine zcl ?_|refine zcm ?_|refine zcn ?_))
   exact zej rfl ⟨_, _, rfl, rfl⟩
 · obtain ⟨rows, x, h2, h3, h4, h5, h6, h7⟩ := hat j (by omega)
   have hP := hP j x rows h5 h3 h6
   have hlv : a.live j = liveB x := live_at h7
   obtain ⟨op, ad, v, n, hact, hop⟩ := act_form x
   rw [hact] at hP
   repeat (first|refine zck ?_|refine zcl ?_|refine zcm ?_|refine zcn ?_)
   first|refine zcp (by kernel_rfl) ?_|refine zcq PP_mixed (by kernel_rfl) (by kernel_rfl) ?_
   repeat' (refine zap rfl ?_; first|refine zan rfl ?_|refine zaa 0 rfl rfl rfl ?_|refine zce rfl ?_|refine zao rfl ?_|refine zbi rfl rfl (by omega) ?_)
   all_goals (refine zch ?_; repeat (first|refine zck ?_|refine zcl ?_|refine zcm ?_|refine zcn ?_))
   refine zci rfl ?_
   repeat (first|refine zck ?_|refine zcl ?_|refine zcm ?_|refine zcn ?_|refine zco ?_)
   cases hb : liveB x with
   | false =>
     rw [hb] at hP
     have hs1 : stepsTo a (j + 1) = stepsTo a j := by rw [stepsTo_succ, hlv, hb, if_neg (by decide)]
     repeat (first|refine zck ?_|refine zcl ?_|refine zcm ?_|refine zcn ?_)
     first|refine zcp (by kernel_rfl) ?_|refine zcq PP_mixed (by kernel_rfl) (by kernel_rfl) ?_
     repeat' (refine zap rfl ?_; first|refine zar (fun t5 => ?_)|refine zan rfl ?_|refine zaa 0 rfl rfl rfl ?_|refine zah [] hP rfl rfl rfl (fun p hp => .tail _ hp) rfl ?_|refine zae 1 rfl rfl rfl rfl rfl rfl rfl ?_)
     all_goals (refine zch ?_; repeat (first|refine zck ?_|refine zcl ?_|refine zcm ?_|refine zcn ?_))
     repeat (first|refine zck ?_|refine zcl ?_|refine zcm ?_|refine zcn ?_|refine zco ?_)
     repeat (first|refine zck ?_|refine zcl ?_|refine zcm ?_|refine zcn ?_)
     first|refine zcp (by kernel_rfl) ?_|refine zcq PP_mixed (by kernel_rfl) (by kernel_rfl) ?_
     repeat' (refine zap rfl ?_; first|refine zbx rfl ?_|refine zan rfl ?_)
     all_goals (refine zch ?_; repeat (first|refine zck ?_|refine zcl ?_|refine zcm ?_|refine zcn ?_))
     refine zci rfl ?_
     refine zcs rfl ?_
     refine zec [0] rfl ?_
     repeat (first|refine zck ?_|refine zcl ?_|refine zcm ?_|refine zcn ?_|refine zco ?_)
     repeat (first|refine zck ?_|refine zcl ?_|refine zcm ?_|refine zcn ?_)
     first|refine zcp (by kernel_rfl) ?_|refine zcq PP_mixed (by kernel_rfl) (by kernel_rfl) ?_
     repeat' (refine zap rfl ?_; first|refine zan rfl ?_|refine zau rfl rfl (by omega) ?_)
     all_goals (refine zch ?_; repeat (first|refine zck ?_|refine zcl ?_|refine zcm ?_|refine zcn ?_))
     refine zeq ⟨rfl, (j + 1, sa1, sc1), ⟨rfl, ?_, zes (by omega), trivial⟩, ⟨?_, by omega⟩, by dsimp only; omega⟩
     · show _ = Value.slice sa1 (stepsTo a (j + 1)).length sc1
       rw [hs1]; rfl
     · dsimp only
       rw [hs1]
   | true =>
     rw [hb] at hP
     have hs1 : stepsTo a (j + 1) = stepsTo a j ++ [j] := by rw [stepsTo_succ, hlv, hb, if_pos rfl]
     have hC := hC ((j : Int) + 1) op ad v n (hop hb)
     repeat (first|refine zck ?_|refine zcl ?_|refine zcm ?_|refine zcn ?_)
     first|refine zcp (by kernel_rfl) ?_|refine zcq PP_mixed (by kernel_rfl) (by kernel_rfl) ?_
     repeat' (refine zap rfl ?_; first|refine zar (fun t5 => ?_)|refine zan rfl ?_|refine zaa 0 rfl rfl rfl ?_|refine zah [] hP rfl rfl rfl (fun p hp => .tail _ hp) rfl ?_|refine zae 1 rfl rfl rfl rfl rfl rfl rfl ?_)
     all_goals (refine zch ?_; repeat (first|refine zck ?_|refine zcl ?_|refine zcm ?_|refine zcn ?_))
     repeat (first|refine zck ?_|refine zcl ?_|refine zcm ?_|refine zcn ?_|refine zco ?_)
     repeat (first|refine zck ?_|refine zcl ?_|refine zcm ?_|refine zcn ?_)
     first|refine zcp (by kernel_rfl) ?_|refine zcq PP_mixed (by kernel_rfl) (by kernel_rfl) ?_
     repeat' (refine zap rfl ?_; first|refine zbx rfl ?_|refine zan rfl ?_)
     all_goals (refine zch ?_; repeat (first|refine zck ?_|refine zcl ?_|refine zcm ?_|refine zcn ?_))
     refine zcj rfl ?_
     repeat (first|refine zck ?_|refine zcl ?_|refine zcm ?_|refine zcn ?_|refine zco ?_)
     repeat (first|refine zck ?_|refine zcl ?_|refine zcm ?_|refine zcn ?_)
     first|refine zcp (by kernel_rfl) ?_|refine zcq PP_mixed (by kernel_rfl) (by kernel_rfl) ?_
     repeat' (refine zap rfl ?_; first|refine zan rfl ?_|refine zaa 0 rfl rfl rfl ?_|refine zab 1 rfl rfl rfl ?_|refine zah [] hC rfl rfl rfl zdj rfl ?_|refine zao rfl ?_)
     all_goals (refine zch ?_; repeat (first|refine zck ?_|refine zcl ?_|refine zcm ?_|refine zcn ?_))
     repeat (first|refine zck ?_|refine zcl ?_|refine zcm ?_|refine zcn ?_|refine zco ?_)
     refine zet ?_
     repeat (first|refine zck ?_|refine zcl ?_|refine zcm ?_|refine zcn ?_|refine zco ?_)
     repeat (first|refine zck ?_|refine zcl ?_|refine zcm ?_|refine zcn ?_)
     first|refine zcp (by kernel_rfl) ?_|refine zcq PP_mixed (by kernel_rfl) (by kernel_rfl) ?_
     repeat' (refine zap rfl ?_; first|refine zbg rfl rfl (by omega) ?_)
     all_goals (refine zch ?_; repeat (first|refine zck ?_|refine zcl ?_|refine zcm ?_|refine zcn ?_))
     refine zci rfl ?_
     repeat (first|refine zck ?_|refine zcl ?_|refine zcm ?_|refine zcn ?_|refine zco ?_)
     repeat (first|refine zck ?_|refine zcl ?_|refine zcm ?_|refine zcn ?_)
     first|refine zcp (by kernel_rfl) ?_|refine zcq PP_mixed (by kernel_rfl) (by kernel_rfl) ?_
     repeat' (refine zap rfl ?_; first|refine zan rfl ?_)
     all_goals (refine zch ?_; repeat (first|refine zck ?_|refine zcl ?_|refine zcm ?_|refine zcn ?_))
     repeat (first|refine zck ?_|refine zcl ?_|refine zcm ?_|refine zcn ?_|refine zco ?_)
     repeat (first|refine zck ?_|refine zcl ?_|refine zcm ?_|refine zcn ?_)
     first|refine zcp (by kernel_rfl) ?_|refine zcq PP_mixed (by kernel_rfl) (by kernel_rfl) ?_
     repeat' (refine zap rfl ?_; first|refine zcb rfl ?_|refine zdt rfl rfl rfl rfl rfl rfl (fun nb2 => ?_)|refine zan rfl ?_|refine zdz 0 2 rfl rfl rfl rfl rfl rfl rfl rfl (by omega) (fun _ _ => rfl) (fun a' c' => ?_))
     all_goals (refine zch ?_; repeat (first|refine zck ?_|refine zcl ?_|refine zcm ?_|refine zcn ?_))
     repeat (first|refine zck ?_|refine zcl ?_|refine zcm ?_|refine zcn ?_|refine zco ?_)
     repeat (first|refine zck ?_|refine zcl ?_|refine zcm ?_|refine zcn ?_)
     first|refine zcp (by kernel_rfl) ?_|refine zcq PP_mixed (by kernel_rfl) (by kernel_rfl) ?_
     repeat' (refine zap rfl ?_; first|refine zan rfl ?_|refine zau rfl rfl (by omega) ?_)
     all_goals (refine zch ?_; repeat (first|refine zck ?_|refine zcl ?_|refine zcm ?_|refine zcn ?_))
     repeat (first|refine zck ?_|refine zcl ?_|refine zcm ?_|refine zcn ?_|refine zco ?_)
     repeat (first|refine zck ?_|refine zcl ?_|refine zcm ?_|refine zcn ?_)
     first|refine zcp (by kernel_rfl) ?_|refine zcq PP_mixed (by kernel_rfl) (by kernel_rfl) ?_
     repeat' (refine zap rfl ?_; first|refine zbh rfl rfl (by omega) ?_)
     all_goals (refine zch ?_; repeat (first|refine zck ?_|refine zcl ?_|refine zcm ?_|refine zcn ?_))
     refine zcj rfl ?_
     refine zcs rfl ?_
     refine zec [0] rfl ?_
     repeat (first|refine zck ?_|refine zcl ?_|refine zcm ?_|refine zcn ?_|refine zco ?_)
     repeat (first|refine zck ?_|refine zcl ?_|refine zcm ?_|refine zcn ?_)
     first|refine zcp (by kernel_rfl) ?_|refine zcq PP_mixed (by kernel_rfl) (by kernel_rfl) ?_
     repeat' (refine zap rfl ?_; first|refine zan rfl ?_|refine zau rfl rfl (by omega) ?_)
     all_goals (refine zch ?_; repeat (first|refine zck ?_|refine zcl ?_|refine zcm ?_|refine zcn ?_))
     refine zeq ⟨rfl, (j + 1, a', c'), ⟨rfl, ?_, zes (by omega), trivial⟩, ⟨?_, by omega⟩, by dsimp only; omega⟩
     · show _ = Value.slice a' (stepsTo a (j + 1)).length c'
       rw [hs1, List.length_append]; rfl
     · dsimp only
       rw [hs1, List.length_append, List.flatMap_append]
       rfl
end Go.Proofs.YtikackodhiollaaGreatDoor
