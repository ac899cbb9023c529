import Derived.Test.YtloekplbhknepaaGreatPart5
/- Lemmas and walks for the claims of this seat (own work): Sh4. -/
namespace Sim
open Go Go.Vc
theorem look_ins : ∀ (l : List (Int × Value)) (a x : Int) (u : Value), Vc.look (ins l a u) x = if a = x then some u else Vc.look l x
  | [], a, x, u => by simp only [ins, Vc.look]
  | (b, v) :: l, a, x, u => by
    simp only [ins]
    by_cases hb : b = a
    · subst hb
      simp only [if_true, Vc.look]
      by_cases hx : b = x
      · rw [if_pos hx, if_pos hx]
      · rw [if_neg hx, if_neg hx, if_neg hx]
    · simp only [hb, if_false, Vc.look]
      rw [look_ins l a x u]
      by_cases hx : b = x
      · rw [if_pos hx, if_pos hx, if_neg (fun e => hb (hx.trans e.symm))]
      · rw [if_neg hx, if_neg hx]
abbrev KM : Type := List Int × List (Int × Value)
def stepKM (s : KM) (x : Kl) : KM := (if Vc.look s.2 x.n = none then s.1 ++ [x.n] else s.1, ins s.2 x.n (.int .i64 x.v))
def kmL (l : List Kl) (i : Nat) : KM := (l.take i).foldl stepKM ([], [])
theorem kmL_succ {l : List Kl} {i : Nat} {x : Kl} (h : l[i]? = some x) : kmL l (i + 1) = stepKM (kmL l i) x := by
  unfold kmL
  rw [List.take_add_one, h]
  simp
def lvF (ml : List (Int × Value)) (k : Int) : Int := match Vc.look ml k with | some (.int _ v) => v | _ => 0
structure KI (s : KM) (i : Nat) : Prop where
  mem : ∀ k, Vc.look s.2 k ≠ none ↔ k ∈ s.1
  val : ∀ k u, Vc.look s.2 k = some u → ∃ v, u = .int .i64 v
  few : s.1.length ≤ i
theorem KI.zero : KI ([], []) 0 := ⟨fun k => by simp [Vc.look], fun k u h => by simp [Vc.look] at h, Nat.le_refl _⟩
theorem KI.next {s : KM} {i : Nat} (h : KI s i) (x : Kl) : KI (stepKM s x) (i + 1) := by
  unfold stepKM
  refine ⟨fun k => ?_, fun k u hu => ?_, ?_⟩
  · dsimp only
    rw [look_ins]
    by_cases hk : x.n = k
    · rw [if_pos hk]
      subst hk
      refine ⟨fun _ => ?_, fun _ e => by cases e⟩
      by_cases hn : Vc.look s.2 x.n = none
      · rw [if_pos hn]; simp
      · rw [if_neg hn]; exact (h.mem _).1 hn
    · rw [if_neg hk, h.mem]
      by_cases hn : Vc.look s.2 x.n = none
      · rw [if_pos hn, List.mem_append, List.mem_singleton]
        exact ⟨fun a => .inl a, fun a => a.resolve_right (fun e => hk e.symm)⟩
      · rw [if_neg hn]
  · dsimp only at hu
    rw [look_ins] at hu
    by_cases hk : x.n = k
    · rw [if_pos hk] at hu; cases hu; exact ⟨_, rfl⟩
    · rw [if_neg hk] at hu; exact h.val k u hu
  · dsimp only
    have := h.few
    split
    · rw [List.length_append]; simp; omega
    · omega
theorem KI.at (l : List Kl) : ∀ i, i ≤ l.length → KI (kmL l i) i
  | 0, _ => KI.zero
  | i + 1, h => by
    have hx : l[i]? = some l[i] := List.getElem?_eq_getElem (by omega)
    rw [kmL_succ hx]
    exact (KI.at l i (by omega)).next _
theorem KI.getD {s : KM} {i : Nat} (h : KI s i) (k : Int) : (Vc.look s.2 k).getD (.int .i64 0) = .int .i64 (lvF s.2 k) := by
  unfold lvF
  cases hu : Vc.look s.2 k with
  | none => rfl
  | some u => obtain ⟨v, rfl⟩ := h.val k u hu; rfl
theorem TOk.n23 {K : Int} {hs : Int → Int} {hv : Int → Bool} {m : Int → Int} {l : List Ri} (h : TOk K hs hv m l) : m 23 = (rnodes l : Int) := by
  obtain ⟨I, B, Q, M, hT, A⟩ := h
  have h2 := Tr.nodes_ok M hT A
  have := M.nod
  omega
theorem rnodes_le (l : List Ri) : rnodes l ≤ 5 * l.length := by
  have := rAll_le l 4
  unfold rnodes
  omega
end Sim
namespace Go.Vc
theorem Fn.conv {P : Program} {w0 : World} {sh : Shared} {f : FuncId} {args : List Value} {Γ Γ' : List Asn} {R : Value → List Asn → Prop} (h : Fn P w0 sh f args Γ R) (hΓ : ∀ g, Stars Γ' g → Stars Γ g) : Fn P w0 sh f args Γ' R :=
  ⟨h.enters, fun hF w hsh ⟨g, h1, h2, h3⟩ => h.calls hF w hsh ⟨g, hΓ g h1, h2, h3⟩⟩
end Go.Vc
namespace Go.Proofs.YtloekplbhknepaaGreat
open Go.Vc Sim
set_option maxHeartbeats 8000000
theorem shapes_spec (w0 : World) (v : Value) (l : List Kl) (hv : InSl w0 Kl.cells 3 v l) (hok : ∀ x ∈ l, x.ok) (tn : Int) (ht : u8P tn) (vo : Value) (os : List Int) (hvo : InSl w0 encI 1 vo os) :
    FnE PP w0 [] 7 [v, .int .u8 tn, vo] [] (.bool true) [] := by
  have hr := hv.rd (sh := [])
  have hro : RdSl w0 [] encI 1 vo os := hvo.rd
  obtain ⟨a, cap, rfl, hmax, hmem⟩ := hv
  obtain ⟨a2, cap2, rfl, hmax2, hmem2⟩ := hvo
  have hA := awake_spec w0
  have hI := ints_spec w0 60 (by decide)
  rw [show (60 : Int) % 61 = 60 by decide] at hI
  have hF := fresh_spec w0 544 (by decide)
  have hW0 := fresh_WM 544 (by decide)
  generalize wk 0 (List.replicate 544 0) = kn0 at hF hW0
  have hm1 : (l.length : Int) ≤ 9223372036854775807 := by have := hmax.2; simp only [maxLen] at this; omega
  have hm2 : (os.length : Int) ≤ 9223372036854775807 := by have := hmax2.2; simp only [maxLen] at this; omega
  by_cases hl : (l.length : Int) > 14
  · refine fn_of_run en7 fn7 rfl rfl rfl ?_
    repeat' (first | refine zck ?_ | refine zcp (by kernel_rfl) ?_ | (refine zap rfl ?_; first | refine zak rfl ?_ | refine zan rfl ?_ | refine zan rfl ?_ | refine zah [] hA rfl rfl rfl sub_nil rfl ?_ | refine zce rfl ?_ | refine zbk rfl rfl (by omega) ?_ | refine zbu rfl ?_) | refine zch ?_ | refine zci rfl ?_)
    exact ret_tmp1 rfl ⟨rfl, rfl⟩
  by_cases ho : (os.length : Int) > 8
  · refine fn_of_run en7 fn7 rfl rfl rfl ?_
    repeat' (first | refine zck ?_ | refine zcp (by kernel_rfl) ?_ | (refine zap rfl ?_; first | refine zaj rfl ?_ | refine zan rfl ?_ | refine zan rfl ?_ | refine zah [] hA rfl rfl rfl sub_nil rfl ?_ | refine zce rfl ?_ | refine zbk rfl rfl (by omega) ?_ | refine zbl rfl rfl (by omega) ?_ | refine zbv rfl ?_) | refine zch ?_ | refine zci rfl ?_)
    exact ret_tmp1 rfl ⟨rfl, rfl⟩
  refine fn_of_run en7 fn7 rfl rfl rfl ?_
  repeat (first | refine zck ?_ | refine zcl ?_ | refine zcm ?_ | refine zcn ?_)
  first | refine zcp (by kernel_rfl) ?_ | refine zcr [(.quiet, 0), (.quiet, 1), (.quiet, 2), (.quiet, 3), (.quiet, 4), (.quiet, 5), (.quiet, 6), (.quiet, 7), (.quiet, 8), (.loud, 9), (.quiet, 10), (.quiet, 11), (.quiet, 12), (.quiet, 13), (.loud, 14), (.quiet, 15), (.quiet, 16), (.quiet, 17), (.quiet, 18), (.loud, 19), (.quiet, 20), (.loud, 21), (.quiet, 22), (.quiet, 23), (.loud, 24), (.quiet, 25), (.loud, 26), (.loud, 27), (.quiet, 28), (.quiet, 29), (.quiet, 30), (.loud, 31), (.quiet, 32), (.quiet, 33), (.loud, 34), (.quiet, 35), (.quiet, 36), (.quiet, 37), (.quiet, 38), (.loud, 39), (.quiet, 40), (.quiet, 41)] PP_mixed (by kernel_rfl) (by kernel_rfl) ?_ | refine zcq PP_mixed (by kernel_rfl) (by kernel_rfl) ?_
  repeat' (refine zap rfl ?_; first | refine zan rfl ?_)
  all_goals refine zch ?_
  all_goals repeat (first | refine zck ?_ | refine zcl ?_ | refine zcm ?_ | refine zcn ?_)
  repeat (first | refine zck ?_ | refine zcl ?_ | refine zcm ?_ | refine zcn ?_)
  first | refine zcp (by kernel_rfl) ?_ | refine zcr [(.quiet, 0), (.quiet, 1), (.quiet, 2), (.quiet, 3), (.quiet, 4), (.quiet, 5), (.quiet, 6), (.quiet, 7), (.quiet, 8), (.loud, 9), (.quiet, 10), (.quiet, 11), (.quiet, 12), (.quiet, 13), (.loud, 14), (.quiet, 15), (.quiet, 16), (.quiet, 17), (.quiet, 18), (.loud, 19), (.quiet, 20), (.loud, 21), (.quiet, 22), (.quiet, 23), (.loud, 24), (.quiet, 25), (.loud, 26), (.loud, 27), (.quiet, 28), (.quiet, 29), (.quiet, 30), (.loud, 31), (.quiet, 32), (.quiet, 33), (.loud, 34), (.quiet, 35), (.quiet, 36), (.quiet, 37), (.quiet, 38), (.loud, 39), (.quiet, 40), (.quiet, 41)] PP_mixed (by kernel_rfl) (by kernel_rfl) ?_ | refine zcq PP_mixed (by kernel_rfl) (by kernel_rfl) ?_
  repeat' (refine zap rfl ?_; first | refine zaj rfl ?_ | refine zan rfl ?_ | refine zce rfl ?_ | refine zbl rfl rfl (by omega) ?_ | refine zbv rfl ?_)
  all_goals refine zch ?_
  all_goals repeat (first | refine zck ?_ | refine zcl ?_ | refine zcm ?_ | refine zcn ?_)
  refine zcj rfl ?_
  repeat (first | refine zck ?_ | refine zcl ?_ | refine zcm ?_ | refine zcn ?_ | refine zco ?_)
  repeat (first | refine zck ?_ | refine zcl ?_ | refine zcm ?_ | refine zcn ?_)
  first | refine zcp (by kernel_rfl) ?_ | refine zcr [(.quiet, 0), (.quiet, 1), (.quiet, 2), (.quiet, 3), (.quiet, 4), (.quiet, 5), (.quiet, 6), (.quiet, 7), (.quiet, 8), (.loud, 9), (.quiet, 10), (.quiet, 11), (.quiet, 12), (.quiet, 13), (.loud, 14), (.quiet, 15), (.quiet, 16), (.quiet, 17), (.quiet, 18), (.loud, 19), (.quiet, 20), (.loud, 21), (.quiet, 22), (.quiet, 23), (.loud, 24), (.quiet, 25), (.loud, 26), (.loud, 27), (.quiet, 28), (.quiet, 29), (.quiet, 30), (.loud, 31), (.quiet, 32), (.quiet, 33), (.loud, 34), (.quiet, 35), (.quiet, 36), (.quiet, 37), (.quiet, 38), (.loud, 39), (.quiet, 40), (.quiet, 41)] PP_mixed (by kernel_rfl) (by kernel_rfl) ?_ | refine zcq PP_mixed (by kernel_rfl) (by kernel_rfl) ?_
  repeat' (refine zap rfl ?_; first | refine zan rfl ?_ | refine zcc (fun nb => ?_))
  all_goals refine zch ?_
  all_goals repeat (first | refine zck ?_ | refine zcl ?_ | refine zcm ?_ | refine zcn ?_)
  revert nb; intro mb
  repeat (first | refine zck ?_ | refine zcl ?_ | refine zcm ?_ | refine zcn ?_)
  first | refine zcp (by kernel_rfl) ?_ | refine zcr [(.quiet, 0), (.quiet, 1), (.quiet, 2), (.quiet, 3), (.quiet, 4), (.quiet, 5), (.quiet, 6), (.quiet, 7), (.quiet, 8), (.loud, 9), (.quiet, 10), (.quiet, 11), (.quiet, 12), (.quiet, 13), (.loud, 14), (.quiet, 15), (.quiet, 16), (.quiet, 17), (.quiet, 18), (.loud, 19), (.quiet, 20), (.loud, 21), (.quiet, 22), (.quiet, 23), (.loud, 24), (.quiet, 25), (.loud, 26), (.loud, 27), (.quiet, 28), (.quiet, 29), (.quiet, 30), (.loud, 31), (.quiet, 32), (.quiet, 33), (.loud, 34), (.quiet, 35), (.quiet, 36), (.quiet, 37), (.quiet, 38), (.loud, 39), (.quiet, 40), (.quiet, 41)] PP_mixed (by kernel_rfl) (by kernel_rfl) ?_ | refine zcq PP_mixed (by kernel_rfl) (by kernel_rfl) ?_
  repeat' (refine zap rfl ?_; first | refine zan rfl ?_)
  all_goals refine zch ?_
  all_goals repeat (first | refine zck ?_ | refine zcl ?_ | refine zcm ?_ | refine zcn ?_)
  refine run_nilslice 2 1 ?_
  repeat (first | refine zck ?_ | refine zcl ?_ | refine zcm ?_ | refine zcn ?_)
  first | refine zcp (by kernel_rfl) ?_ | refine zcr [(.quiet, 0), (.quiet, 1), (.quiet, 2), (.quiet, 3), (.quiet, 4), (.quiet, 5), (.quiet, 6), (.quiet, 7), (.quiet, 8), (.loud, 9), (.quiet, 10), (.quiet, 11), (.quiet, 12), (.quiet, 13), (.loud, 14), (.quiet, 15), (.quiet, 16), (.quiet, 17), (.quiet, 18), (.loud, 19), (.quiet, 20), (.loud, 21), (.quiet, 22), (.quiet, 23), (.loud, 24), (.quiet, 25), (.loud, 26), (.loud, 27), (.quiet, 28), (.quiet, 29), (.quiet, 30), (.loud, 31), (.quiet, 32), (.quiet, 33), (.loud, 34), (.quiet, 35), (.quiet, 36), (.quiet, 37), (.quiet, 38), (.loud, 39), (.quiet, 40), (.quiet, 41)] PP_mixed (by kernel_rfl) (by kernel_rfl) ?_ | refine zcq PP_mixed (by kernel_rfl) (by kernel_rfl) ?_
  repeat' (refine zap rfl ?_; first | refine zan rfl ?_ | refine zce rfl ?_)
  all_goals refine zch ?_
  all_goals repeat (first | refine zck ?_ | refine zcl ?_ | refine zcm ?_ | refine zcn ?_)
  refine run_slots [(0, .slice a l.length cap), (1, .int .u8 tn), (2, .slice a2 os.length cap2), (7, .map (some mb)), (8, .slice none 0 0), (47, .int .i64 l.length), (48, .int .i64 0)] ⟨rfl, rfl, rfl, rfl, rfl, rfl, rfl, trivial⟩ (fun junk => ?_)
  refine run_loop (S := Nat × (Option Addr × Nat)) (fun st => [(0, .slice a l.length cap), (1, .int .u8 tn), (2, .slice a2 os.length cap2), (7, .map (some mb)), (8, .slice st.2.1 (kmL l st.1).1.length st.2.2), (47, .int .i64 l.length), (48, .int .i64 (st.1 : Int))])
    (fun st Γ => Γ = [pt mb (mapI (kmL l st.1).2), SlA 2 1 st.2.1 (kmL l st.1).1.length st.2.2 (intsV (kmL l st.1).1)] ∧ st.1 ≤ l.length) (fun st => l.length - st.1) (0, (none, 0)) ⟨rfl, rfl, rfl, rfl, rfl, rfl, rfl, trivial⟩ ⟨rfl, Nat.zero_le _⟩ ?_
  rintro ⟨i, ⟨a1, c1⟩⟩ Γ junk ⟨rfl, hi⟩
  dsimp only at hi ⊢
  by_cases hlt : i < l.length
  · have hx : l[i]? = some l[i] := List.getElem?_eq_getElem hlt
    generalize l[i] = x at hx
    have hk := kmL_succ hx
    have hKI := KI.at l i hi
    generalize kmL l i = s0 at hk hKI ⊢
    obtain ⟨ks, ml⟩ := s0
    have hfew := hKI.few
    dsimp only at hfew ⊢
    obtain ⟨b, off, cc, TT, fr, rfl, hh, _, hcx⟩ := hr.cells hx
    have hc1 := hcx 1 _ rfl
    have hc2 := hcx 2 _ rfl
    repeat (first | refine zck ?_ | refine zcl ?_ | refine zcm ?_ | refine zcn ?_)
    first | refine zcp (by kernel_rfl) ?_ | refine zcr [(.quiet, 0), (.quiet, 1), (.quiet, 2), (.quiet, 3), (.quiet, 4), (.quiet, 5), (.quiet, 6), (.quiet, 7), (.quiet, 8), (.loud, 9), (.quiet, 10), (.quiet, 11), (.quiet, 12), (.quiet, 13), (.loud, 14), (.quiet, 15), (.quiet, 16), (.quiet, 17), (.quiet, 18), (.loud, 19), (.quiet, 20), (.loud, 21), (.quiet, 22), (.quiet, 23), (.loud, 24), (.quiet, 25), (.loud, 26), (.loud, 27), (.quiet, 28), (.quiet, 29), (.quiet, 30), (.loud, 31), (.quiet, 32), (.quiet, 33), (.loud, 34), (.quiet, 35), (.quiet, 36), (.quiet, 37), (.quiet, 38), (.loud, 39), (.quiet, 40), (.quiet, 41)] PP_mixed (by kernel_rfl) (by kernel_rfl) ?_ | refine zcq PP_mixed (by kernel_rfl) (by kernel_rfl) ?_
    repeat' (refine zap rfl ?_; first | refine zbg rfl rfl (by omega) ?_)
    all_goals refine zch ?_
    all_goals repeat (first | refine zck ?_ | refine zcl ?_ | refine zcm ?_ | refine zcn ?_)
    refine zci rfl ?_
    repeat (first | refine zck ?_ | refine zcl ?_ | refine zcm ?_ | refine zcn ?_)
    first | refine zcp (by kernel_rfl) ?_ | refine zcr [(.quiet, 0), (.quiet, 1), (.quiet, 2), (.quiet, 3), (.quiet, 4), (.quiet, 5), (.quiet, 6), (.quiet, 7), (.quiet, 8), (.loud, 9), (.quiet, 10), (.quiet, 11), (.quiet, 12), (.quiet, 13), (.loud, 14), (.quiet, 15), (.quiet, 16), (.quiet, 17), (.quiet, 18), (.loud, 19), (.quiet, 20), (.loud, 21), (.quiet, 22), (.quiet, 23), (.loud, 24), (.quiet, 25), (.loud, 26), (.loud, 27), (.quiet, 28), (.quiet, 29), (.quiet, 30), (.loud, 31), (.quiet, 32), (.quiet, 33), (.loud, 34), (.quiet, 35), (.quiet, 36), (.quiet, 37), (.quiet, 38), (.loud, 39), (.quiet, 40), (.quiet, 41)] PP_mixed (by kernel_rfl) (by kernel_rfl) ?_ | refine zcq PP_mixed (by kernel_rfl) (by kernel_rfl) ?_
    repeat' (refine zap rfl ?_; first | refine zan rfl ?_ | refine zan rfl ?_)
    all_goals refine zch ?_
    all_goals repeat (first | refine zck ?_ | refine zcl ?_ | refine zcm ?_ | refine zcn ?_)
    cases hu : Vc.look ml x.n with
    | none =>
      have e1 : stepKM (ks, ml) x = (ks ++ [x.n], ins ml x.n (.int .i64 x.v)) := by unfold stepKM; dsimp only; rw [if_pos hu]
      repeat (first | refine zck ?_ | refine zcl ?_ | refine zcm ?_ | refine zcn ?_)
      first | refine zcp (by kernel_rfl) ?_ | refine zcr [(.quiet, 0), (.quiet, 1), (.quiet, 2), (.quiet, 3), (.quiet, 4), (.quiet, 5), (.quiet, 6), (.quiet, 7), (.quiet, 8), (.loud, 9), (.quiet, 10), (.quiet, 11), (.quiet, 12), (.quiet, 13), (.loud, 14), (.quiet, 15), (.quiet, 16), (.quiet, 17), (.quiet, 18), (.loud, 19), (.quiet, 20), (.loud, 21), (.quiet, 22), (.quiet, 23), (.loud, 24), (.quiet, 25), (.loud, 26), (.loud, 27), (.quiet, 28), (.quiet, 29), (.quiet, 30), (.loud, 31), (.quiet, 32), (.quiet, 33), (.loud, 34), (.quiet, 35), (.quiet, 36), (.quiet, 37), (.quiet, 38), (.loud, 39), (.quiet, 40), (.quiet, 41)] PP_mixed (by kernel_rfl) (by kernel_rfl) ?_ | refine zcq PP_mixed (by kernel_rfl) (by kernel_rfl) ?_
      repeat' (refine zap rfl ?_; first | refine zad rfl hh (hc1 _ (by omega)) ?_ | refine reg_lookupOk 0 rfl rfl rfl hu ?_ | refine zan rfl ?_ | refine zan rfl ?_ | refine zao rfl ?_ | refine zan rfl ?_ | refine zas rfl rfl (by omega) ?_)
      all_goals refine zch ?_
      all_goals repeat (first | refine zck ?_ | refine zcl ?_ | refine zcm ?_ | refine zcn ?_)
      repeat (first | refine zck ?_ | refine zcl ?_ | refine zcm ?_ | refine zcn ?_)
      first | refine zcp (by kernel_rfl) ?_ | refine zcr [(.quiet, 0), (.quiet, 1), (.quiet, 2), (.quiet, 3), (.quiet, 4), (.quiet, 5), (.quiet, 6), (.quiet, 7), (.quiet, 8), (.loud, 9), (.quiet, 10), (.quiet, 11), (.quiet, 12), (.quiet, 13), (.loud, 14), (.quiet, 15), (.quiet, 16), (.quiet, 17), (.quiet, 18), (.loud, 19), (.quiet, 20), (.loud, 21), (.quiet, 22), (.quiet, 23), (.loud, 24), (.quiet, 25), (.loud, 26), (.loud, 27), (.quiet, 28), (.quiet, 29), (.quiet, 30), (.loud, 31), (.quiet, 32), (.quiet, 33), (.loud, 34), (.quiet, 35), (.quiet, 36), (.quiet, 37), (.quiet, 38), (.loud, 39), (.quiet, 40), (.quiet, 41)] PP_mixed (by kernel_rfl) (by kernel_rfl) ?_ | refine zcq PP_mixed (by kernel_rfl) (by kernel_rfl) ?_
      repeat' (refine zap rfl ?_; first | refine zan rfl ?_ | refine zbx rfl ?_)
      all_goals refine zch ?_
      all_goals repeat (first | refine zck ?_ | refine zcl ?_ | refine zcm ?_ | refine zcn ?_)
      refine zci rfl ?_
      repeat (first | refine zck ?_ | refine zcl ?_ | refine zcm ?_ | refine zcn ?_)
      first | refine zcp (by kernel_rfl) ?_ | refine zcr [(.quiet, 0), (.quiet, 1), (.quiet, 2), (.quiet, 3), (.quiet, 4), (.quiet, 5), (.quiet, 6), (.quiet, 7), (.quiet, 8), (.loud, 9), (.quiet, 10), (.quiet, 11), (.quiet, 12), (.quiet, 13), (.loud, 14), (.quiet, 15), (.quiet, 16), (.quiet, 17), (.quiet, 18), (.loud, 19), (.quiet, 20), (.loud, 21), (.quiet, 22), (.quiet, 23), (.loud, 24), (.quiet, 25), (.loud, 26), (.loud, 27), (.quiet, 28), (.quiet, 29), (.quiet, 30), (.loud, 31), (.quiet, 32), (.quiet, 33), (.loud, 34), (.quiet, 35), (.quiet, 36), (.quiet, 37), (.quiet, 38), (.loud, 39), (.quiet, 40), (.quiet, 41)] PP_mixed (by kernel_rfl) (by kernel_rfl) ?_ | refine zcq PP_mixed (by kernel_rfl) (by kernel_rfl) ?_
      repeat' (refine zap rfl ?_; first | refine zad rfl hh (hc1 _ (by omega)) ?_ | refine reg_buildSlice rfl rfl rfl rfl rfl rfl (fun nb2 => ?_) | refine reg_append 1 2 rfl rfl rfl rfl rfl rfl rfl rfl (by first | omega | (dsimp only; omega)) (fun _ _ => rfl) (fun a1' c1' => ?_) | refine zan rfl ?_ | refine zan rfl ?_ | refine zao rfl ?_ | refine zas rfl rfl (by omega) ?_)
      all_goals refine zch ?_
      all_goals repeat (first | refine zck ?_ | refine zcl ?_ | refine zcm ?_ | refine zcn ?_)
      repeat (first | refine zck ?_ | refine zcl ?_ | refine zcm ?_ | refine zcn ?_ | refine zco ?_)
      repeat (first | refine zck ?_ | refine zcl ?_ | refine zcm ?_ | refine zcn ?_)
      first | refine zcp (by kernel_rfl) ?_ | refine zcq PP_mixed (by kernel_rfl) (by kernel_rfl) ?_
      repeat' (refine zap rfl ?_; first | refine zad rfl hh (hc1 _ (by omega)) ?_ | refine zad rfl hh (hc2 _ (by omega)) ?_ | refine reg_mapUpdate 0 (u := .int .i64 x.v) rfl rfl rfl rfl rfl ?_ | refine zan rfl ?_ | refine zao rfl ?_ | refine zas rfl rfl (by omega) ?_)
      all_goals refine zch ?_
      all_goals repeat (first | refine zck ?_ | refine zcl ?_ | refine zcm ?_ | refine zcn ?_)
      repeat (first | refine zck ?_ | refine zcl ?_ | refine zcm ?_ | refine zcn ?_)
      first | refine zcp (by kernel_rfl) ?_ | refine zcr [(.quiet, 0), (.quiet, 1), (.quiet, 2), (.quiet, 3), (.quiet, 4), (.quiet, 5), (.quiet, 6), (.quiet, 7), (.quiet, 8), (.loud, 9), (.quiet, 10), (.quiet, 11), (.quiet, 12), (.quiet, 13), (.loud, 14), (.quiet, 15), (.quiet, 16), (.quiet, 17), (.quiet, 18), (.loud, 19), (.quiet, 20), (.loud, 21), (.quiet, 22), (.quiet, 23), (.loud, 24), (.quiet, 25), (.loud, 26), (.loud, 27), (.quiet, 28), (.quiet, 29), (.quiet, 30), (.loud, 31), (.quiet, 32), (.quiet, 33), (.loud, 34), (.quiet, 35), (.quiet, 36), (.quiet, 37), (.quiet, 38), (.loud, 39), (.quiet, 40), (.quiet, 41)] PP_mixed (by kernel_rfl) (by kernel_rfl) ?_ | refine zcq PP_mixed (by kernel_rfl) (by kernel_rfl) ?_
      repeat' (refine zap rfl ?_; first | refine zan rfl ?_ | refine zau rfl rfl (by omega) ?_)
      all_goals refine zch ?_
      all_goals repeat (first | refine zck ?_ | refine zcl ?_ | refine zcm ?_ | refine zcn ?_)
      refine run_take [0, 0] rfl ?_
      have el : (ks ++ [x.n]).length = ks.length + 1 := by rw [List.length_append]; rfl
      have ev : intsV (ks ++ [x.n]) = intsV ks ++ [.int .i64 x.n] := by simp [intsV]
      refine cut_end ⟨rfl, (i + 1, (a1', c1')), ⟨rfl, rfl, rfl, rfl, congrArg (fun q => Value.slice a1' q c1') (by dsimp only; rw [hk, e1]; exact el.symm), rfl, int_eq (by dsimp only; omega), trivial⟩, ⟨?_, hlt⟩, by dsimp only; omega⟩
      dsimp only
      rw [hk, e1]
      dsimp only
      rw [el, ev]
      rfl
    | some u =>
      have e1 : stepKM (ks, ml) x = (ks, ins ml x.n (.int .i64 x.v)) := by unfold stepKM; dsimp only; rw [if_neg (by rw [hu]; exact fun e => by cases e)]
      repeat (first | refine zck ?_ | refine zcl ?_ | refine zcm ?_ | refine zcn ?_)
      first | refine zcp (by kernel_rfl) ?_ | refine zcr [(.quiet, 0), (.quiet, 1), (.quiet, 2), (.quiet, 3), (.quiet, 4), (.quiet, 5), (.quiet, 6), (.quiet, 7), (.quiet, 8), (.loud, 9), (.quiet, 10), (.quiet, 11), (.quiet, 12), (.quiet, 13), (.loud, 14), (.quiet, 15), (.quiet, 16), (.quiet, 17), (.quiet, 18), (.loud, 19), (.quiet, 20), (.loud, 21), (.quiet, 22), (.quiet, 23), (.loud, 24), (.quiet, 25), (.loud, 26), (.loud, 27), (.quiet, 28), (.quiet, 29), (.quiet, 30), (.loud, 31), (.quiet, 32), (.quiet, 33), (.loud, 34), (.quiet, 35), (.quiet, 36), (.quiet, 37), (.quiet, 38), (.loud, 39), (.quiet, 40), (.quiet, 41)] PP_mixed (by kernel_rfl) (by kernel_rfl) ?_ | refine zcq PP_mixed (by kernel_rfl) (by kernel_rfl) ?_
      repeat' (refine zap rfl ?_; first | refine zad rfl hh (hc1 _ (by omega)) ?_ | refine reg_lookupOk 0 rfl rfl rfl hu ?_ | refine zan rfl ?_ | refine zan rfl ?_ | refine zao rfl ?_ | refine zan rfl ?_ | refine zas rfl rfl (by omega) ?_)
      all_goals refine zch ?_
      all_goals repeat (first | refine zck ?_ | refine zcl ?_ | refine zcm ?_ | refine zcn ?_)
      repeat (first | refine zck ?_ | refine zcl ?_ | refine zcm ?_ | refine zcn ?_)
      first | refine zcp (by kernel_rfl) ?_ | refine zcr [(.quiet, 0), (.quiet, 1), (.quiet, 2), (.quiet, 3), (.quiet, 4), (.quiet, 5), (.quiet, 6), (.quiet, 7), (.quiet, 8), (.loud, 9), (.quiet, 10), (.quiet, 11), (.quiet, 12), (.quiet, 13), (.loud, 14), (.quiet, 15), (.quiet, 16), (.quiet, 17), (.quiet, 18), (.loud, 19), (.quiet, 20), (.loud, 21), (.quiet, 22), (.quiet, 23), (.loud, 24), (.quiet, 25), (.loud, 26), (.loud, 27), (.quiet, 28), (.quiet, 29), (.quiet, 30), (.loud, 31), (.quiet, 32), (.quiet, 33), (.loud, 34), (.quiet, 35), (.quiet, 36), (.quiet, 37), (.quiet, 38), (.loud, 39), (.quiet, 40), (.quiet, 41)] PP_mixed (by kernel_rfl) (by kernel_rfl) ?_ | refine zcq PP_mixed (by kernel_rfl) (by kernel_rfl) ?_
      repeat' (refine zap rfl ?_; first | refine zan rfl ?_ | refine zbx rfl ?_)
      all_goals refine zch ?_
      all_goals repeat (first | refine zck ?_ | refine zcl ?_ | refine zcm ?_ | refine zcn ?_)
      refine zcj rfl ?_
      repeat (first | refine zck ?_ | refine zcl ?_ | refine zcm ?_ | refine zcn ?_ | refine zco ?_)
      repeat (first | refine zck ?_ | refine zcl ?_ | refine zcm ?_ | refine zcn ?_)
      first | refine zcp (by kernel_rfl) ?_ | refine zcq PP_mixed (by kernel_rfl) (by kernel_rfl) ?_
      repeat' (refine zap rfl ?_; first | refine zad rfl hh (hc1 _ (by omega)) ?_ | refine zad rfl hh (hc2 _ (by omega)) ?_ | refine reg_mapUpdate 0 (u := .int .i64 x.v) rfl rfl rfl rfl rfl ?_ | refine zan rfl ?_ | refine zao rfl ?_ | refine zas rfl rfl (by omega) ?_)
      all_goals refine zch ?_
      all_goals repeat (first | refine zck ?_ | refine zcl ?_ | refine zcm ?_ | refine zcn ?_)
      repeat (first | refine zck ?_ | refine zcl ?_ | refine zcm ?_ | refine zcn ?_)
      first | refine zcp (by kernel_rfl) ?_ | refine zcr [(.quiet, 0), (.quiet, 1), (.quiet, 2), (.quiet, 3), (.quiet, 4), (.quiet, 5), (.quiet, 6), (.quiet, 7), (.quiet, 8), (.loud, 9), (.quiet, 10), (.quiet, 11), (.quiet, 12), (.quiet, 13), (.loud, 14), (.quiet, 15), (.quiet, 16), (.quiet, 17), (.quiet, 18), (.loud, 19), (.quiet, 20), (.loud, 21), (.quiet, 22), (.quiet, 23), (.loud, 24), (.quiet, 25), (.loud, 26), (.loud, 27), (.quiet, 28), (.quiet, 29), (.quiet, 30), (.loud, 31), (.quiet, 32), (.quiet, 33), (.loud, 34), (.quiet, 35), (.quiet, 36), (.quiet, 37), (.quiet, 38), (.loud, 39), (.quiet, 40), (.quiet, 41)] PP_mixed (by kernel_rfl) (by kernel_rfl) ?_ | refine zcq PP_mixed (by kernel_rfl) (by kernel_rfl) ?_
      repeat' (refine zap rfl ?_; first | refine zan rfl ?_ | refine zau rfl rfl (by omega) ?_)
      all_goals refine zch ?_
      all_goals repeat (first | refine zck ?_ | refine zcl ?_ | refine zcm ?_ | refine zcn ?_)
      refine cut_end ⟨rfl, (i + 1, (a1, c1)), ⟨rfl, rfl, rfl, rfl, congrArg (fun q => Value.slice a1 q c1) (by dsimp only; rw [hk, e1]), rfl, int_eq (by dsimp only; omega), trivial⟩, ⟨?_, hlt⟩, by dsimp only; omega⟩
      dsimp only
      rw [hk, e1]
  · have hil : i = l.length := by omega
    subst hil
    have hKI := KI.at l l.length hi
    generalize kmL l l.length = s0 at hKI ⊢
    obtain ⟨ks, ml⟩ := s0
    have hfew := hKI.few
    dsimp only at hfew ⊢
    repeat (first | refine zck ?_ | refine zcl ?_ | refine zcm ?_ | refine zcn ?_)
    first | refine zcp (by kernel_rfl) ?_ | refine zcr [(.quiet, 0), (.quiet, 1), (.quiet, 2), (.quiet, 3), (.quiet, 4), (.quiet, 5), (.quiet, 6), (.quiet, 7), (.quiet, 8), (.loud, 9), (.quiet, 10), (.quiet, 11), (.quiet, 12), (.quiet, 13), (.loud, 14), (.quiet, 15), (.quiet, 16), (.quiet, 17), (.quiet, 18), (.loud, 19), (.quiet, 20), (.loud, 21), (.quiet, 22), (.quiet, 23), (.loud, 24), (.quiet, 25), (.loud, 26), (.loud, 27), (.quiet, 28), (.quiet, 29), (.quiet, 30), (.loud, 31), (.quiet, 32), (.quiet, 33), (.loud, 34), (.quiet, 35), (.quiet, 36), (.quiet, 37), (.quiet, 38), (.loud, 39), (.quiet, 40), (.quiet, 41)] PP_mixed (by kernel_rfl) (by kernel_rfl) ?_ | refine zcq PP_mixed (by kernel_rfl) (by kernel_rfl) ?_
    repeat' (refine zap rfl ?_; first | refine zbh rfl rfl (by omega) ?_)
    all_goals refine zch ?_
    all_goals repeat (first | refine zck ?_ | refine zcl ?_ | refine zcm ?_ | refine zcn ?_)
    refine zcj rfl ?_
    refine cut_exit rfl rfl ?_
    refine run_share [0] rfl ?_
    repeat (first | refine zck ?_ | refine zcl ?_ | refine zcm ?_ | refine zcn ?_ | refine zco ?_)
    repeat (first | refine zck ?_ | refine zcl ?_ | refine zcm ?_ | refine zcn ?_)
    first | refine zcp (by kernel_rfl) ?_ | refine zcr [(.quiet, 0), (.quiet, 1), (.quiet, 2), (.quiet, 3), (.quiet, 4), (.quiet, 5), (.quiet, 6), (.quiet, 7), (.quiet, 8), (.loud, 9), (.quiet, 10), (.quiet, 11), (.quiet, 12), (.quiet, 13), (.loud, 14), (.quiet, 15), (.quiet, 16), (.quiet, 17), (.quiet, 18), (.loud, 19), (.quiet, 20), (.loud, 21), (.quiet, 22), (.quiet, 23), (.loud, 24), (.quiet, 25), (.loud, 26), (.loud, 27), (.quiet, 28), (.quiet, 29), (.quiet, 30), (.loud, 31), (.quiet, 32), (.quiet, 33), (.loud, 34), (.quiet, 35), (.quiet, 36), (.quiet, 37), (.quiet, 38), (.loud, 39), (.quiet, 40), (.quiet, 41)] PP_mixed (by kernel_rfl) (by kernel_rfl) ?_ | refine zcq PP_mixed (by kernel_rfl) (by kernel_rfl) ?_
    repeat' (refine zap rfl ?_; first | refine zah [] hI rfl rfl rfl sub_nil rfl ?_ | refine zae 1 rfl rfl rfl rfl rfl rfl rfl ?_ | refine zar (fun nb => ?_))
    all_goals refine zch ?_
    all_goals repeat (first | refine zck ?_ | refine zcl ?_ | refine zcm ?_ | refine zcn ?_)
    revert nb; intro tb
    refine run_share [1] rfl ?_
    repeat (first | refine zck ?_ | refine zcl ?_ | refine zcm ?_ | refine zcn ?_)
    first | refine zcp (by kernel_rfl) ?_ | refine zcr [(.quiet, 0), (.quiet, 1), (.quiet, 2), (.quiet, 3), (.quiet, 4), (.quiet, 5), (.quiet, 6), (.quiet, 7), (.quiet, 8), (.loud, 9), (.quiet, 10), (.quiet, 11), (.quiet, 12), (.quiet, 13), (.loud, 14), (.quiet, 15), (.quiet, 16), (.quiet, 17), (.quiet, 18), (.loud, 19), (.quiet, 20), (.loud, 21), (.quiet, 22), (.quiet, 23), (.loud, 24), (.quiet, 25), (.loud, 26), (.loud, 27), (.quiet, 28), (.quiet, 29), (.quiet, 30), (.loud, 31), (.quiet, 32), (.quiet, 33), (.loud, 34), (.quiet, 35), (.quiet, 36), (.quiet, 37), (.quiet, 38), (.loud, 39), (.quiet, 40), (.quiet, 41)] PP_mixed (by kernel_rfl) (by kernel_rfl) ?_ | refine zcq PP_mixed (by kernel_rfl) (by kernel_rfl) ?_
    repeat' (refine zap rfl ?_; first | refine zan rfl ?_ | refine zan rfl ?_)
    all_goals refine zch ?_
    all_goals repeat (first | refine zck ?_ | refine zcl ?_ | refine zcm ?_ | refine zcn ?_)
    repeat (first | refine zck ?_ | refine zcl ?_ | refine zcm ?_ | refine zcn ?_)
    first | refine zcp (by kernel_rfl) ?_ | refine zcr [(.quiet, 0), (.quiet, 1), (.quiet, 2), (.quiet, 3), (.quiet, 4), (.quiet, 5), (.quiet, 6), (.quiet, 7), (.quiet, 8), (.loud, 9), (.quiet, 10), (.quiet, 11), (.quiet, 12), (.quiet, 13), (.loud, 14), (.quiet, 15), (.quiet, 16), (.quiet, 17), (.quiet, 18), (.loud, 19), (.quiet, 20), (.loud, 21), (.quiet, 22), (.quiet, 23), (.loud, 24), (.quiet, 25), (.loud, 26), (.loud, 27), (.quiet, 28), (.quiet, 29), (.quiet, 30), (.loud, 31), (.quiet, 32), (.quiet, 33), (.loud, 34), (.quiet, 35), (.quiet, 36), (.quiet, 37), (.quiet, 38), (.loud, 39), (.quiet, 40), (.quiet, 41)] PP_mixed (by kernel_rfl) (by kernel_rfl) ?_ | refine zcq PP_mixed (by kernel_rfl) (by kernel_rfl) ?_
    repeat' (refine zap rfl ?_; first | refine zan rfl ?_ | (refine zai [] hF rfl rfl rfl sub_nil ?_; rintro v Γ' ⟨wb, rfl, rfl⟩))
    all_goals refine zch ?_
    all_goals repeat (first | refine zck ?_ | refine zcl ?_ | refine zcm ?_ | refine zcn ?_)
    rename_i ab
    revert wb; intro bb
    repeat (first | refine zck ?_ | refine zcl ?_ | refine zcm ?_ | refine zcn ?_)
    first | refine zcp (by kernel_rfl) ?_ | refine zcr [(.quiet, 0), (.quiet, 1), (.quiet, 2), (.quiet, 3), (.quiet, 4), (.quiet, 5), (.quiet, 6), (.quiet, 7), (.quiet, 8), (.loud, 9), (.quiet, 10), (.quiet, 11), (.quiet, 12), (.quiet, 13), (.loud, 14), (.quiet, 15), (.quiet, 16), (.quiet, 17), (.quiet, 18), (.loud, 19), (.quiet, 20), (.loud, 21), (.quiet, 22), (.quiet, 23), (.loud, 24), (.quiet, 25), (.loud, 26), (.loud, 27), (.quiet, 28), (.quiet, 29), (.quiet, 30), (.loud, 31), (.quiet, 32), (.quiet, 33), (.loud, 34), (.quiet, 35), (.quiet, 36), (.quiet, 37), (.quiet, 38), (.loud, 39), (.quiet, 40), (.quiet, 41)] PP_mixed (by kernel_rfl) (by kernel_rfl) ?_ | refine zcq PP_mixed (by kernel_rfl) (by kernel_rfl) ?_
    repeat' (refine zap rfl ?_; first | refine zan rfl ?_)
    all_goals refine zch ?_
    all_goals repeat (first | refine zck ?_ | refine zcl ?_ | refine zcm ?_ | refine zcn ?_)
    repeat (first | refine zck ?_ | refine zcl ?_ | refine zcm ?_ | refine zcn ?_)
    first | refine zcp (by kernel_rfl) ?_ | refine zcr [(.quiet, 0), (.quiet, 1), (.quiet, 2), (.quiet, 3), (.quiet, 4), (.quiet, 5), (.quiet, 6), (.quiet, 7), (.quiet, 8), (.loud, 9), (.quiet, 10), (.quiet, 11), (.quiet, 12), (.quiet, 13), (.loud, 14), (.quiet, 15), (.quiet, 16), (.quiet, 17), (.quiet, 18), (.loud, 19), (.quiet, 20), (.loud, 21), (.quiet, 22), (.quiet, 23), (.loud, 24), (.quiet, 25), (.loud, 26), (.loud, 27), (.quiet, 28), (.quiet, 29), (.quiet, 30), (.loud, 31), (.quiet, 32), (.quiet, 33), (.loud, 34), (.quiet, 35), (.quiet, 36), (.quiet, 37), (.quiet, 38), (.loud, 39), (.quiet, 40), (.quiet, 41)] PP_mixed (by kernel_rfl) (by kernel_rfl) ?_ | refine zcq PP_mixed (by kernel_rfl) (by kernel_rfl) ?_
    repeat' (refine zap rfl ?_; first | refine zan rfl ?_ | refine zce rfl ?_)
    all_goals refine zch ?_
    all_goals repeat (first | refine zck ?_ | refine zcl ?_ | refine zcm ?_ | refine zcn ?_)
    refine run_exch 2 _ rfl LstA.ofSl rfl ?_
    refine run_lend [2] rfl fun sh hi' hR => ?_
    have hmb : (mb, mapI ml) ∈ sh := hi' _ (.tail _ (.head _))
    have htb : (tb, trC 60) ∈ sh := hi' _ (.head _)
    clear hi'
    have hK : (0 : Int) ≤ 60 ∧ (60 : Int) ≤ 60 := by decide
    refine run_slots [(1, .int .u8 tn), (2, .slice a2 os.length cap2), (7, .map (some mb)), (8, .slice a1 ks.length c1), (12, ptr tb), (13, .func (.func 28) #[] (List.toArray [ptr tb])), (14, .map (some ab)), (15, .map (some bb)), (87, .slice a1 ks.length c1), (88, .int .i64 ks.length), (89, .int .i64 0)] ⟨rfl, rfl, rfl, rfl, rfl, rfl, rfl, rfl, rfl, rfl, rfl, trivial⟩ (fun junk => ?_)
    refine run_take [1, 0] rfl ?_
    generalize hf : lvF ml = f
    have hgd : ∀ k, (Vc.look ml k).getD (.int .i64 0) = .int .i64 (f k) := fun k => by rw [hKI.getD k, ← hf]
    refine run_loop (S := Nat × Nat × List (Int × Wd) × (Int → Int)) (fun st => [(1, .int .u8 tn), (2, .slice a2 os.length cap2), (7, .map (some mb)), (8, .slice a1 ks.length c1), (12, ptr tb), (13, .func (.func 28) #[] (List.toArray [ptr tb])), (14, .map (some st.2.1)), (15, .map (some bb)), (87, .slice a1 ks.length c1), (88, .int .i64 ks.length), (89, .int .i64 (st.1 : Int))])
      (fun st Γ => Γ = [wdA st.2.1 st.2.2.1, wdA bb kn0] ∧ st.1 ≤ ks.length ∧ WM 544 st.1 st.2.2.1 st.2.2.2 ∧ TOk 60 hsI (fun _ => true) st.2.2.2 (putAll f (ks.take st.1) [])) (fun st => ks.length - st.1) (0, ab, kn0, fun _ => 0) ⟨rfl, rfl, rfl, rfl, rfl, rfl, rfl, rfl, rfl, rfl, rfl, trivial⟩ ⟨rfl, Nat.zero_le _, hW0, TOk.zero hK⟩ ?_
    rintro ⟨i, wb, kn, m⟩ Γ junk ⟨rfl, hi, hW, hM⟩
    dsimp only at hi hW hM ⊢
    by_cases hlt : i < ks.length
    · have hx : ks[i]? = some ks[i] := List.getElem?_eq_getElem hlt
      have htk : ks.take (i + 1) = ks.take i ++ [ks[i]] := by rw [List.take_add_one, hx]; rfl
      generalize ks[i] = x at hx htk
      have hpl := putAll_len f (ks.take (i + 1)) []
      have hps := putAll_snoc f (ks.take i) x []
      rw [← htk] at hps
      have hS := shPut w0 sh wb tb hK kn i (by omega) hW hM x (f x) htb
      rw [← hps] at hS
      have hln : (ks.take (i + 1)).length = i + 1 := by rw [List.length_take, Nat.min_eq_left hlt]
      have hnd := rnodes_le (putAll f (ks.take (i + 1)) [])
      rw [hln] at hpl
      have hl0 : ([] : List Ri).length = 0 := rfl
      obtain ⟨b, off, cc, TT, fr, e2, hm, hrd⟩ := hR.at hx
      subst e2
      repeat (first | refine zck ?_ | refine zcl ?_ | refine zcm ?_ | refine zcn ?_)
      first | refine zcp (by kernel_rfl) ?_ | refine zcr [(.quiet, 0), (.quiet, 1), (.quiet, 2), (.quiet, 3), (.quiet, 4), (.quiet, 5), (.quiet, 6), (.quiet, 7), (.quiet, 8), (.loud, 9), (.quiet, 10), (.quiet, 11), (.quiet, 12), (.quiet, 13), (.loud, 14), (.quiet, 15), (.quiet, 16), (.quiet, 17), (.quiet, 18), (.loud, 19), (.quiet, 20), (.loud, 21), (.quiet, 22), (.quiet, 23), (.loud, 24), (.quiet, 25), (.loud, 26), (.loud, 27), (.quiet, 28), (.quiet, 29), (.quiet, 30), (.loud, 31), (.quiet, 32), (.quiet, 33), (.loud, 34), (.quiet, 35), (.quiet, 36), (.quiet, 37), (.quiet, 38), (.loud, 39), (.quiet, 40), (.quiet, 41)] PP_mixed (by kernel_rfl) (by kernel_rfl) ?_ | refine zcq PP_mixed (by kernel_rfl) (by kernel_rfl) ?_
      repeat' (refine zap rfl ?_; first | refine zbg rfl rfl (by omega) ?_)
      all_goals refine zch ?_
      all_goals repeat (first | refine zck ?_ | refine zcl ?_ | refine zcm ?_ | refine zcn ?_)
      refine zci rfl ?_
      repeat (first | refine zck ?_ | refine zcl ?_ | refine zcm ?_ | refine zcn ?_)
      first | refine zcp (by kernel_rfl) ?_ | refine zcr [(.quiet, 0), (.quiet, 1), (.quiet, 2), (.quiet, 3), (.quiet, 4), (.quiet, 5), (.quiet, 6), (.quiet, 7), (.quiet, 8), (.loud, 9), (.quiet, 10), (.quiet, 11), (.quiet, 12), (.quiet, 13), (.loud, 14), (.quiet, 15), (.quiet, 16), (.quiet, 17), (.quiet, 18), (.loud, 19), (.quiet, 20), (.loud, 21), (.quiet, 22), (.quiet, 23), (.loud, 24), (.quiet, 25), (.loud, 26), (.loud, 27), (.quiet, 28), (.quiet, 29), (.quiet, 30), (.loud, 31), (.quiet, 32), (.quiet, 33), (.loud, 34), (.quiet, 35), (.quiet, 36), (.quiet, 37), (.quiet, 38), (.loud, 39), (.quiet, 40), (.quiet, 41)] PP_mixed (by kernel_rfl) (by kernel_rfl) ?_ | refine zcq PP_mixed (by kernel_rfl) (by kernel_rfl) ?_
      repeat' (refine zap rfl ?_; first | refine zad rfl hm (hrd _ (by omega)) ?_ | refine zan rfl ?_ | refine zas rfl rfl (by omega) ?_)
      all_goals refine zch ?_
      all_goals repeat (first | refine zck ?_ | refine zcl ?_ | refine zcm ?_ | refine zcn ?_)
      repeat (first | refine zck ?_ | refine zcl ?_ | refine zcm ?_ | refine zcn ?_)
      first | refine zcp (by kernel_rfl) ?_ | refine zcr [(.quiet, 0), (.quiet, 1), (.quiet, 2), (.quiet, 3), (.quiet, 4), (.quiet, 5), (.quiet, 6), (.quiet, 7), (.quiet, 8), (.loud, 9), (.quiet, 10), (.quiet, 11), (.quiet, 12), (.quiet, 13), (.loud, 14), (.quiet, 15), (.quiet, 16), (.quiet, 17), (.quiet, 18), (.loud, 19), (.quiet, 20), (.loud, 21), (.quiet, 22), (.quiet, 23), (.loud, 24), (.quiet, 25), (.loud, 26), (.loud, 27), (.quiet, 28), (.quiet, 29), (.quiet, 30), (.loud, 31), (.quiet, 32), (.quiet, 33), (.loud, 34), (.quiet, 35), (.quiet, 36), (.quiet, 37), (.quiet, 38), (.loud, 39), (.quiet, 40), (.quiet, 41)] PP_mixed (by kernel_rfl) (by kernel_rfl) ?_ | refine zcq PP_mixed (by kernel_rfl) (by kernel_rfl) ?_
      repeat' (refine zap rfl ?_; first | refine reg_lookup_at hmb rfl rfl (hgd _) ?_ | (refine zai [0] hS rfl rfl rfl (fun _ h => h) ?_; rintro v' Γ' ⟨⟨e, m', hok⟩, nb, kn2, rfl, rfl, hW2⟩) | refine zan rfl ?_ | refine zan rfl ?_ | refine zan rfl ?_)
      all_goals refine zch ?_
      all_goals repeat (first | refine zck ?_ | refine zcl ?_ | refine zcm ?_ | refine zcn ?_)
      by_cases he : e = 0
      · have hM2 := (hok.resolve_right (fun h => by have := h.1; omega)).2
        subst he
        repeat (first | refine zck ?_ | refine zcl ?_ | refine zcm ?_ | refine zcn ?_)
        first | refine zcp (by kernel_rfl) ?_ | refine zcr [(.quiet, 0), (.quiet, 1), (.quiet, 2), (.quiet, 3), (.quiet, 4), (.quiet, 5), (.quiet, 6), (.quiet, 7), (.quiet, 8), (.loud, 9), (.quiet, 10), (.quiet, 11), (.quiet, 12), (.quiet, 13), (.loud, 14), (.quiet, 15), (.quiet, 16), (.quiet, 17), (.quiet, 18), (.loud, 19), (.quiet, 20), (.loud, 21), (.quiet, 22), (.quiet, 23), (.loud, 24), (.quiet, 25), (.loud, 26), (.loud, 27), (.quiet, 28), (.quiet, 29), (.quiet, 30), (.loud, 31), (.quiet, 32), (.quiet, 33), (.loud, 34), (.quiet, 35), (.quiet, 36), (.quiet, 37), (.quiet, 38), (.loud, 39), (.quiet, 40), (.quiet, 41)] PP_mixed (by kernel_rfl) (by kernel_rfl) ?_ | refine zcq PP_mixed (by kernel_rfl) (by kernel_rfl) ?_
        repeat' (refine zap rfl ?_; first | refine zan rfl ?_ | refine zby rfl ?_)
        all_goals refine zch ?_
        all_goals repeat (first | refine zck ?_ | refine zcl ?_ | refine zcm ?_ | refine zcn ?_)
        refine zcj rfl ?_
        repeat (first | refine zck ?_ | refine zcl ?_ | refine zcm ?_ | refine zcn ?_ | refine zco ?_)
        repeat (first | refine zck ?_ | refine zcl ?_ | refine zcm ?_ | refine zcn ?_)
        first | refine zcp (by kernel_rfl) ?_ | refine zcr [(.quiet, 0), (.quiet, 1), (.quiet, 2), (.quiet, 3), (.quiet, 4), (.quiet, 5), (.quiet, 6), (.quiet, 7), (.quiet, 8), (.loud, 9), (.quiet, 10), (.quiet, 11), (.quiet, 12), (.quiet, 13), (.loud, 14), (.quiet, 15), (.quiet, 16), (.quiet, 17), (.quiet, 18), (.loud, 19), (.quiet, 20), (.loud, 21), (.quiet, 22), (.quiet, 23), (.loud, 24), (.quiet, 25), (.loud, 26), (.loud, 27), (.quiet, 28), (.quiet, 29), (.quiet, 30), (.loud, 31), (.quiet, 32), (.quiet, 33), (.loud, 34), (.quiet, 35), (.quiet, 36), (.quiet, 37), (.quiet, 38), (.loud, 39), (.quiet, 40), (.quiet, 41)] PP_mixed (by kernel_rfl) (by kernel_rfl) ?_ | refine zcq PP_mixed (by kernel_rfl) (by kernel_rfl) ?_
        repeat' (refine zap rfl ?_; first | refine zan rfl ?_ | refine zau rfl rfl (by omega) ?_)
        all_goals refine zch ?_
        all_goals repeat (first | refine zck ?_ | refine zcl ?_ | refine zcm ?_ | refine zcn ?_)
        refine cut_end ⟨rfl, (i + 1, nb, kn2, m'), ⟨rfl, rfl, rfl, rfl, rfl, rfl, rfl, rfl, rfl, rfl, int_eq (by dsimp only; omega), trivial⟩, ⟨rfl, hlt, ?_, hM2⟩, by dsimp only; omega⟩
        exact (show ((i + 1 : Nat) : Int) = (i : Int) + 1 by omega) ▸ hW2
      · have hbad := (hok.resolve_left (fun h => he h.1)).2.1
        rw [show decide (e = 0) = false from decide_eq_false he]
        repeat (first | refine zck ?_ | refine zcl ?_ | refine zcm ?_ | refine zcn ?_)
        first | refine zcp (by kernel_rfl) ?_ | refine zcr [(.quiet, 0), (.quiet, 1), (.quiet, 2), (.quiet, 3), (.quiet, 4), (.quiet, 5), (.quiet, 6), (.quiet, 7), (.quiet, 8), (.loud, 9), (.quiet, 10), (.quiet, 11), (.quiet, 12), (.quiet, 13), (.loud, 14), (.quiet, 15), (.quiet, 16), (.quiet, 17), (.quiet, 18), (.loud, 19), (.quiet, 20), (.loud, 21), (.quiet, 22), (.quiet, 23), (.loud, 24), (.quiet, 25), (.loud, 26), (.loud, 27), (.quiet, 28), (.quiet, 29), (.quiet, 30), (.loud, 31), (.quiet, 32), (.quiet, 33), (.loud, 34), (.quiet, 35), (.quiet, 36), (.quiet, 37), (.quiet, 38), (.loud, 39), (.quiet, 40), (.quiet, 41)] PP_mixed (by kernel_rfl) (by kernel_rfl) ?_ | refine zcq PP_mixed (by kernel_rfl) (by kernel_rfl) ?_
        repeat' (refine zap rfl ?_; first | refine zan rfl ?_ | refine zbx rfl ?_)
        all_goals refine zch ?_
        all_goals repeat (first | refine zck ?_ | refine zcl ?_ | refine zcm ?_ | refine zcn ?_)
        refine zci rfl ?_
        repeat' (first | refine zck ?_ | refine zcp (by kernel_rfl) ?_ | (refine zap rfl ?_; first | refine zaj rfl ?_ | refine zan rfl ?_ | refine zan rfl ?_ | refine zah [] hA rfl rfl rfl sub_nil rfl ?_ | refine zce rfl ?_ | refine zbk rfl rfl (by omega) ?_ | refine zbu rfl ?_) | refine zch ?_)
        exact cut_ret (leaves_nil (ends_take [] rfl (ends_one rfl rfl ⟨rfl, rfl, rfl⟩)))
    · have hil : i = ks.length := by omega
      subst hil
      rw [List.take_length] at hM
      repeat (first | refine zck ?_ | refine zcl ?_ | refine zcm ?_ | refine zcn ?_)
      first | refine zcp (by kernel_rfl) ?_ | refine zcr [(.quiet, 0), (.quiet, 1), (.quiet, 2), (.quiet, 3), (.quiet, 4), (.quiet, 5), (.quiet, 6), (.quiet, 7), (.quiet, 8), (.loud, 9), (.quiet, 10), (.quiet, 11), (.quiet, 12), (.quiet, 13), (.loud, 14), (.quiet, 15), (.quiet, 16), (.quiet, 17), (.quiet, 18), (.loud, 19), (.quiet, 20), (.loud, 21), (.quiet, 22), (.quiet, 23), (.loud, 24), (.quiet, 25), (.loud, 26), (.loud, 27), (.quiet, 28), (.quiet, 29), (.quiet, 30), (.loud, 31), (.quiet, 32), (.quiet, 33), (.loud, 34), (.quiet, 35), (.quiet, 36), (.quiet, 37), (.quiet, 38), (.loud, 39), (.quiet, 40), (.quiet, 41)] PP_mixed (by kernel_rfl) (by kernel_rfl) ?_ | refine zcq PP_mixed (by kernel_rfl) (by kernel_rfl) ?_
      repeat' (refine zap rfl ?_; first | refine zbh rfl rfl (by omega) ?_)
      all_goals refine zch ?_
      all_goals repeat (first | refine zck ?_ | refine zcl ?_ | refine zcm ?_ | refine zcn ?_)
      refine zcj rfl ?_
      refine cut_exit rfl rfl ?_
      refine run_share [0] rfl ?_
      repeat (first | refine zck ?_ | refine zcl ?_ | refine zcm ?_ | refine zcn ?_ | refine zco ?_)
      repeat (first | refine zck ?_ | refine zcl ?_ | refine zcm ?_ | refine zcn ?_)
      first | refine zcp (by kernel_rfl) ?_ | refine zcr [(.quiet, 0), (.quiet, 1), (.quiet, 2), (.quiet, 3), (.quiet, 4), (.quiet, 5), (.quiet, 6), (.quiet, 7), (.quiet, 8), (.loud, 9), (.quiet, 10), (.quiet, 11), (.quiet, 12), (.quiet, 13), (.loud, 14), (.quiet, 15), (.quiet, 16), (.quiet, 17), (.quiet, 18), (.loud, 19), (.quiet, 20), (.loud, 21), (.quiet, 22), (.quiet, 23), (.loud, 24), (.quiet, 25), (.loud, 26), (.loud, 27), (.quiet, 28), (.quiet, 29), (.quiet, 30), (.loud, 31), (.quiet, 32), (.quiet, 33), (.loud, 34), (.quiet, 35), (.quiet, 36), (.quiet, 37), (.quiet, 38), (.loud, 39), (.quiet, 40), (.quiet, 41)] PP_mixed (by kernel_rfl) (by kernel_rfl) ?_ | refine zcq PP_mixed (by kernel_rfl) (by kernel_rfl) ?_
      repeat' (refine zap rfl ?_; first | refine zan rfl ?_ | refine zce rfl ?_)
      all_goals refine zch ?_
      all_goals repeat (first | refine zck ?_ | refine zcl ?_ | refine zcm ?_ | refine zcn ?_)
      revert wb kn m; intro aw kna ma hW hM
      have hOs := hro.mono (sh' := (aw, mapI (knM kna)) :: sh) (fun p hp => by cases hp)
      refine run_slots [(1, .int .u8 tn), (2, .slice a2 os.length cap2), (7, .map (some mb)), (8, .slice a1 ks.length c1), (12, ptr tb), (13, .func (.func 28) #[] (List.toArray [ptr tb])), (14, .map (some aw)), (15, .map (some bb)), (112, .slice a2 os.length cap2), (113, .int .i64 os.length), (114, .int .i64 0)] ⟨rfl, rfl, rfl, rfl, rfl, rfl, rfl, rfl, rfl, rfl, rfl, trivial⟩ (fun junk => ?_)
      refine run_loop (S := Nat × Nat × List (Int × Wd) × (Int → Int)) (fun st => [(1, .int .u8 tn), (2, .slice a2 os.length cap2), (7, .map (some mb)), (8, .slice a1 ks.length c1), (12, ptr tb), (13, .func (.func 28) #[] (List.toArray [ptr tb])), (14, .map (some aw)), (15, .map (some st.2.1)), (112, .slice a2 os.length cap2), (113, .int .i64 os.length), (114, .int .i64 (st.1 : Int))])
        (fun st Γ => Γ = [wdA st.2.1 st.2.2.1] ∧ st.1 ≤ os.length ∧ WM 544 st.1 st.2.2.1 st.2.2.2 ∧ TOk 60 hsI (fun _ => true) st.2.2.2 (putAll (fun _ => 7) (os.take st.1) [])) (fun st => os.length - st.1) (0, bb, kn0, fun _ => 0) ⟨rfl, rfl, rfl, rfl, rfl, rfl, rfl, rfl, rfl, rfl, rfl, trivial⟩ ⟨rfl, Nat.zero_le _, hW0, TOk.zero hK⟩ ?_
      rintro ⟨i, wb, kn, m⟩ Γ junk ⟨rfl, hi2, hW1, hM1⟩
      dsimp only at hi2 hW1 hM1 ⊢
      by_cases hlt : i < os.length
      · have hx : os[i]? = some os[i] := List.getElem?_eq_getElem hlt
        have htk : os.take (i + 1) = os.take i ++ [os[i]] := by rw [List.take_add_one, hx]; rfl
        generalize os[i] = x at hx htk
        have hpl := putAll_len (fun _ => 7) (os.take (i + 1)) []
        have hps := putAll_snoc (fun _ => 7) (os.take i) x []
        rw [← htk] at hps
        have hS := shPut w0 ((aw, mapI (knM kna)) :: sh) wb tb hK kn i (by omega) hW1 hM1 x 7 (.tail _ htb)
        rw [← hps] at hS
        have hln : (os.take (i + 1)).length = i + 1 := by rw [List.length_take, Nat.min_eq_left hlt]
        have hnd := rnodes_le (putAll (fun _ => 7) (os.take (i + 1)) [])
        rw [hln] at hpl
        have hl0 : ([] : List Ri).length = 0 := rfl
        obtain ⟨b, off, cc, TT, fr, e2, hm, hrd⟩ := hOs.at hx
        subst e2
        repeat (first | refine zck ?_ | refine zcl ?_ | refine zcm ?_ | refine zcn ?_)
        first | refine zcp (by kernel_rfl) ?_ | refine zcr [(.quiet, 0), (.quiet, 1), (.quiet, 2), (.quiet, 3), (.quiet, 4), (.quiet, 5), (.quiet, 6), (.quiet, 7), (.quiet, 8), (.loud, 9), (.quiet, 10), (.quiet, 11), (.quiet, 12), (.quiet, 13), (.loud, 14), (.quiet, 15), (.quiet, 16), (.quiet, 17), (.quiet, 18), (.loud, 19), (.quiet, 20), (.loud, 21), (.quiet, 22), (.quiet, 23), (.loud, 24), (.quiet, 25), (.loud, 26), (.loud, 27), (.quiet, 28), (.quiet, 29), (.quiet, 30), (.loud, 31), (.quiet, 32), (.quiet, 33), (.loud, 34), (.quiet, 35), (.quiet, 36), (.quiet, 37), (.quiet, 38), (.loud, 39), (.quiet, 40), (.quiet, 41)] PP_mixed (by kernel_rfl) (by kernel_rfl) ?_ | refine zcq PP_mixed (by kernel_rfl) (by kernel_rfl) ?_
        repeat' (refine zap rfl ?_; first | refine zbg rfl rfl (by omega) ?_)
        all_goals refine zch ?_
        all_goals repeat (first | refine zck ?_ | refine zcl ?_ | refine zcm ?_ | refine zcn ?_)
        refine zci rfl ?_
        repeat (first | refine zck ?_ | refine zcl ?_ | refine zcm ?_ | refine zcn ?_)
        first | refine zcp (by kernel_rfl) ?_ | refine zcr [(.quiet, 0), (.quiet, 1), (.quiet, 2), (.quiet, 3), (.quiet, 4), (.quiet, 5), (.quiet, 6), (.quiet, 7), (.quiet, 8), (.loud, 9), (.quiet, 10), (.quiet, 11), (.quiet, 12), (.quiet, 13), (.loud, 14), (.quiet, 15), (.quiet, 16), (.quiet, 17), (.quiet, 18), (.loud, 19), (.quiet, 20), (.loud, 21), (.quiet, 22), (.quiet, 23), (.loud, 24), (.quiet, 25), (.loud, 26), (.loud, 27), (.quiet, 28), (.quiet, 29), (.quiet, 30), (.loud, 31), (.quiet, 32), (.quiet, 33), (.loud, 34), (.quiet, 35), (.quiet, 36), (.quiet, 37), (.quiet, 38), (.loud, 39), (.quiet, 40), (.quiet, 41)] PP_mixed (by kernel_rfl) (by kernel_rfl) ?_ | refine zcq PP_mixed (by kernel_rfl) (by kernel_rfl) ?_
        repeat' (refine zap rfl ?_; first | refine zad rfl hm (hrd _ (by omega)) ?_ | refine zan rfl ?_ | refine zas rfl rfl (by omega) ?_)
        all_goals refine zch ?_
        all_goals repeat (first | refine zck ?_ | refine zcl ?_ | refine zcm ?_ | refine zcn ?_)
        repeat (first | refine zck ?_ | refine zcl ?_ | refine zcm ?_ | refine zcn ?_)
        first | refine zcp (by kernel_rfl) ?_ | refine zcr [(.quiet, 0), (.quiet, 1), (.quiet, 2), (.quiet, 3), (.quiet, 4), (.quiet, 5), (.quiet, 6), (.quiet, 7), (.quiet, 8), (.loud, 9), (.quiet, 10), (.quiet, 11), (.quiet, 12), (.quiet, 13), (.loud, 14), (.quiet, 15), (.quiet, 16), (.quiet, 17), (.quiet, 18), (.loud, 19), (.quiet, 20), (.loud, 21), (.quiet, 22), (.quiet, 23), (.loud, 24), (.quiet, 25), (.loud, 26), (.loud, 27), (.quiet, 28), (.quiet, 29), (.quiet, 30), (.loud, 31), (.quiet, 32), (.quiet, 33), (.loud, 34), (.quiet, 35), (.quiet, 36), (.quiet, 37), (.quiet, 38), (.loud, 39), (.quiet, 40), (.quiet, 41)] PP_mixed (by kernel_rfl) (by kernel_rfl) ?_ | refine zcq PP_mixed (by kernel_rfl) (by kernel_rfl) ?_
        repeat' (refine zap rfl ?_; first | (refine zai [0] hS rfl rfl rfl (fun _ h => h) ?_; rintro v' Γ' ⟨⟨e, m', hok⟩, nb, kn2, rfl, rfl, hW2⟩) | refine zan rfl ?_ | refine zan rfl ?_ | refine zan rfl ?_)
        all_goals refine zch ?_
        all_goals repeat (first | refine zck ?_ | refine zcl ?_ | refine zcm ?_ | refine zcn ?_)
        have hM2 := hok.resolve_right (fun h => by have := h.2.1; omega)
        obtain ⟨he, hM2⟩ := hM2
        subst he
        repeat (first | refine zck ?_ | refine zcl ?_ | refine zcm ?_ | refine zcn ?_)
        first | refine zcp (by kernel_rfl) ?_ | refine zcr [(.quiet, 0), (.quiet, 1), (.quiet, 2), (.quiet, 3), (.quiet, 4), (.quiet, 5), (.quiet, 6), (.quiet, 7), (.quiet, 8), (.loud, 9), (.quiet, 10), (.quiet, 11), (.quiet, 12), (.quiet, 13), (.loud, 14), (.quiet, 15), (.quiet, 16), (.quiet, 17), (.quiet, 18), (.loud, 19), (.quiet, 20), (.loud, 21), (.quiet, 22), (.quiet, 23), (.loud, 24), (.quiet, 25), (.loud, 26), (.loud, 27), (.quiet, 28), (.quiet, 29), (.quiet, 30), (.loud, 31), (.quiet, 32), (.quiet, 33), (.loud, 34), (.quiet, 35), (.quiet, 36), (.quiet, 37), (.quiet, 38), (.loud, 39), (.quiet, 40), (.quiet, 41)] PP_mixed (by kernel_rfl) (by kernel_rfl) ?_ | refine zcq PP_mixed (by kernel_rfl) (by kernel_rfl) ?_
        repeat' (refine zap rfl ?_; first | refine zan rfl ?_ | refine zby rfl ?_)
        all_goals refine zch ?_
        all_goals repeat (first | refine zck ?_ | refine zcl ?_ | refine zcm ?_ | refine zcn ?_)
        refine zcj rfl ?_
        repeat (first | refine zck ?_ | refine zcl ?_ | refine zcm ?_ | refine zcn ?_ | refine zco ?_)
        repeat (first | refine zck ?_ | refine zcl ?_ | refine zcm ?_ | refine zcn ?_)
        first | refine zcp (by kernel_rfl) ?_ | refine zcr [(.quiet, 0), (.quiet, 1), (.quiet, 2), (.quiet, 3), (.quiet, 4), (.quiet, 5), (.quiet, 6), (.quiet, 7), (.quiet, 8), (.loud, 9), (.quiet, 10), (.quiet, 11), (.quiet, 12), (.quiet, 13), (.loud, 14), (.quiet, 15), (.quiet, 16), (.quiet, 17), (.quiet, 18), (.loud, 19), (.quiet, 20), (.loud, 21), (.quiet, 22), (.quiet, 23), (.loud, 24), (.quiet, 25), (.loud, 26), (.loud, 27), (.quiet, 28), (.quiet, 29), (.quiet, 30), (.loud, 31), (.quiet, 32), (.quiet, 33), (.loud, 34), (.quiet, 35), (.quiet, 36), (.quiet, 37), (.quiet, 38), (.loud, 39), (.quiet, 40), (.quiet, 41)] PP_mixed (by kernel_rfl) (by kernel_rfl) ?_ | refine zcq PP_mixed (by kernel_rfl) (by kernel_rfl) ?_
        repeat' (refine zap rfl ?_; first | refine zan rfl ?_ | refine zau rfl rfl (by omega) ?_)
        all_goals refine zch ?_
        all_goals repeat (first | refine zck ?_ | refine zcl ?_ | refine zcm ?_ | refine zcn ?_)
        refine cut_end ⟨rfl, (i + 1, nb, kn2, m'), ⟨rfl, rfl, rfl, rfl, rfl, rfl, rfl, rfl, rfl, rfl, int_eq (by dsimp only; omega), trivial⟩, ⟨rfl, hlt, ?_, hM2⟩, by dsimp only; omega⟩
        exact (show ((i + 1 : Nat) : Int) = (i : Int) + 1 by omega) ▸ hW2
      have hil : i = os.length := by omega
      subst hil
      rw [List.take_length] at hM1
      have hB1 := putAll_len (fun _ => 7) os []
      generalize hB : putAll (fun _ => 7) os [] = B1 at hM1 hB1
      repeat (first | refine zck ?_ | refine zcl ?_ | refine zcm ?_ | refine zcn ?_)
      first | refine zcp (by kernel_rfl) ?_ | refine zcr [(.quiet, 0), (.quiet, 1), (.quiet, 2), (.quiet, 3), (.quiet, 4), (.quiet, 5), (.quiet, 6), (.quiet, 7), (.quiet, 8), (.loud, 9), (.quiet, 10), (.quiet, 11), (.quiet, 12), (.quiet, 13), (.loud, 14), (.quiet, 15), (.quiet, 16), (.quiet, 17), (.quiet, 18), (.loud, 19), (.quiet, 20), (.loud, 21), (.quiet, 22), (.quiet, 23), (.loud, 24), (.quiet, 25), (.loud, 26), (.loud, 27), (.quiet, 28), (.quiet, 29), (.quiet, 30), (.loud, 31), (.quiet, 32), (.quiet, 33), (.loud, 34), (.quiet, 35), (.quiet, 36), (.quiet, 37), (.quiet, 38), (.loud, 39), (.quiet, 40), (.quiet, 41)] PP_mixed (by kernel_rfl) (by kernel_rfl) ?_ | refine zcq PP_mixed (by kernel_rfl) (by kernel_rfl) ?_
      repeat' (refine zap rfl ?_; first | refine zbh rfl rfl (by omega) ?_)
      all_goals refine zch ?_
      all_goals repeat (first | refine zck ?_ | refine zcl ?_ | refine zcm ?_ | refine zcn ?_)
      refine zcj rfl ?_
      refine cut_exit rfl rfl ?_
      repeat (first | refine zck ?_ | refine zcl ?_ | refine zcm ?_ | refine zcn ?_ | refine zco ?_)
      repeat (first | refine zck ?_ | refine zcl ?_ | refine zcm ?_ | refine zcn ?_)
      first | refine zcp (by kernel_rfl) ?_ | refine zcr [(.quiet, 0), (.quiet, 1), (.quiet, 2), (.quiet, 3), (.quiet, 4), (.quiet, 5), (.quiet, 6), (.quiet, 7), (.quiet, 8), (.loud, 9), (.quiet, 10), (.quiet, 11), (.quiet, 12), (.quiet, 13), (.loud, 14), (.quiet, 15), (.quiet, 16), (.quiet, 17), (.quiet, 18), (.loud, 19), (.quiet, 20), (.loud, 21), (.quiet, 22), (.quiet, 23), (.loud, 24), (.quiet, 25), (.loud, 26), (.loud, 27), (.quiet, 28), (.quiet, 29), (.quiet, 30), (.loud, 31), (.quiet, 32), (.quiet, 33), (.loud, 34), (.quiet, 35), (.quiet, 36), (.quiet, 37), (.quiet, 38), (.loud, 39), (.quiet, 40), (.quiet, 41)] PP_mixed (by kernel_rfl) (by kernel_rfl) ?_ | refine zcq PP_mixed (by kernel_rfl) (by kernel_rfl) ?_
      repeat' (refine zap rfl ?_; first | refine zan rfl ?_ | refine zce rfl ?_)
      all_goals refine zch ?_
      all_goals repeat (first | refine zck ?_ | refine zcl ?_ | refine zcm ?_ | refine zcn ?_)
      have ht0 := ht.1
      have ht1 := ht.2
      have hR2 := hR.mono (sh' := (aw, mapI (knM kna)) :: sh) (fun p hp => .tail _ hp)
      generalize hrt : rotL ks tn.toNat = rot
      have hrl : rot.length = ks.length := by rw [← hrt, rotL_len]
      refine run_slots [(1, .int .u8 tn), (2, .slice a2 os.length cap2), (7, .map (some mb)), (8, .slice a1 ks.length c1), (12, ptr tb), (13, .func (.func 28) #[] (List.toArray [ptr tb])), (14, .map (some aw)), (15, .map (some wb)), (138, .int .i64 ks.length), (139, .int .i64 0)] ⟨rfl, rfl, rfl, rfl, rfl, rfl, rfl, rfl, rfl, rfl, trivial⟩ (fun junk => ?_)
      refine run_loop (S := Nat × Nat × List (Int × Wd) × (Int → Int)) (fun st => [(1, .int .u8 tn), (2, .slice a2 os.length cap2), (7, .map (some mb)), (8, .slice a1 ks.length c1), (12, ptr tb), (13, .func (.func 28) #[] (List.toArray [ptr tb])), (14, .map (some aw)), (15, .map (some st.2.1)), (138, .int .i64 ks.length), (139, .int .i64 (st.1 : Int))])
        (fun st Γ => Γ = [wdA st.2.1 st.2.2.1] ∧ st.1 ≤ ks.length ∧ WM 544 (os.length + st.1) st.2.2.1 st.2.2.2 ∧ TOk 60 hsI (fun _ => true) st.2.2.2 (putAll f (rot.take st.1) B1)) (fun st => ks.length - st.1) (0, wb, kn, m) ⟨rfl, rfl, rfl, rfl, rfl, rfl, rfl, rfl, rfl, rfl, trivial⟩ ⟨rfl, Nat.zero_le _, by simpa using hW1, hM1⟩ ?_
      rintro ⟨i, wb, kn, m⟩ Γ junk ⟨rfl, hi3, hW2, hM2⟩
      dsimp only at hi3 hW2 hM2 ⊢
      by_cases hlt : i < ks.length
      · have hj : ((i : Int) + tn) % ks.length = (((i + tn.toNat) % ks.length : Nat) : Int) := by
          rw [Int.natCast_emod, Int.natCast_add, show ((tn.toNat : Nat) : Int) = tn by omega]
        have hjt : ((i : Int) + tn).tmod ks.length = (((i + tn.toNat) % ks.length : Nat) : Int) := by rw [Int.tmod_eq_emod_of_nonneg (by omega), hj]
        have hjlt : (i + tn.toNat) % ks.length < ks.length := Nat.mod_lt _ (by omega)
        have hrx := rotL_at (t := tn.toNat) hlt
        rw [hrt] at hrx
        generalize (i + tn.toNat) % ks.length = j at hjt hjlt hrx
        have hx : ks[j]? = some ks[j] := List.getElem?_eq_getElem hjlt
        rw [hx, Option.getD_some] at hrx
        generalize ks[j] = x at hx hrx
        have htk : rot.take (i + 1) = rot.take i ++ [x] := by rw [List.take_add_one, hrx]; rfl
        have hpl := putAll_len f (rot.take (i + 1)) B1
        have hps := putAll_snoc f (rot.take i) x B1
        rw [← htk] at hps
        have hS := shPut w0 ((aw, mapI (knM kna)) :: sh) wb tb hK kn (os.length + i) (by omega) hW2 hM2 x (f x) (.tail _ htb)
        rw [← hps] at hS
        have hln : (rot.take (i + 1)).length = i + 1 := by rw [List.length_take, Nat.min_eq_left (by omega)]
        have hnd := rnodes_le (putAll f (rot.take (i + 1)) B1)
        rw [hln] at hpl
        have hl0 : ([] : List Ri).length = 0 := rfl
        obtain ⟨b, off, cc, TT, fr, e2, hm, hrd⟩ := hR2.at hx
        subst e2
        repeat (first | refine zck ?_ | refine zcl ?_ | refine zcm ?_ | refine zcn ?_)
        first | refine zcp (by kernel_rfl) ?_ | refine zcr [(.quiet, 0), (.quiet, 1), (.quiet, 2), (.quiet, 3), (.quiet, 4), (.quiet, 5), (.quiet, 6), (.quiet, 7), (.quiet, 8), (.loud, 9), (.quiet, 10), (.quiet, 11), (.quiet, 12), (.quiet, 13), (.loud, 14), (.quiet, 15), (.quiet, 16), (.quiet, 17), (.quiet, 18), (.loud, 19), (.quiet, 20), (.loud, 21), (.quiet, 22), (.quiet, 23), (.loud, 24), (.quiet, 25), (.loud, 26), (.loud, 27), (.quiet, 28), (.quiet, 29), (.quiet, 30), (.loud, 31), (.quiet, 32), (.quiet, 33), (.loud, 34), (.quiet, 35), (.quiet, 36), (.quiet, 37), (.quiet, 38), (.loud, 39), (.quiet, 40), (.quiet, 41)] PP_mixed (by kernel_rfl) (by kernel_rfl) ?_ | refine zcq PP_mixed (by kernel_rfl) (by kernel_rfl) ?_
        repeat' (refine zap rfl ?_; first | refine zbg rfl rfl (by omega) ?_)
        all_goals refine zch ?_
        all_goals repeat (first | refine zck ?_ | refine zcl ?_ | refine zcm ?_ | refine zcn ?_)
        refine zci rfl ?_
        repeat (first | refine zck ?_ | refine zcl ?_ | refine zcm ?_ | refine zcn ?_)
        first | refine zcp (by kernel_rfl) ?_ | refine zcr [(.quiet, 0), (.quiet, 1), (.quiet, 2), (.quiet, 3), (.quiet, 4), (.quiet, 5), (.quiet, 6), (.quiet, 7), (.quiet, 8), (.loud, 9), (.quiet, 10), (.quiet, 11), (.quiet, 12), (.quiet, 13), (.loud, 14), (.quiet, 15), (.quiet, 16), (.quiet, 17), (.quiet, 18), (.loud, 19), (.quiet, 20), (.loud, 21), (.quiet, 22), (.quiet, 23), (.loud, 24), (.quiet, 25), (.loud, 26), (.loud, 27), (.quiet, 28), (.quiet, 29), (.quiet, 30), (.loud, 31), (.quiet, 32), (.quiet, 33), (.loud, 34), (.quiet, 35), (.quiet, 36), (.quiet, 37), (.quiet, 38), (.loud, 39), (.quiet, 40), (.quiet, 41)] PP_mixed (by kernel_rfl) (by kernel_rfl) ?_ | refine zcq PP_mixed (by kernel_rfl) (by kernel_rfl) ?_
        repeat' (refine zap rfl ?_; first | refine zan rfl ?_ | refine zan rfl ?_)
        all_goals refine zch ?_
        all_goals repeat (first | refine zck ?_ | refine zcl ?_ | refine zcm ?_ | refine zcn ?_)
        repeat (first | refine zck ?_ | refine zcl ?_ | refine zcm ?_ | refine zcn ?_)
        first | refine zcp (by kernel_rfl) ?_ | refine zcr [(.quiet, 0), (.quiet, 1), (.quiet, 2), (.quiet, 3), (.quiet, 4), (.quiet, 5), (.quiet, 6), (.quiet, 7), (.quiet, 8), (.loud, 9), (.quiet, 10), (.quiet, 11), (.quiet, 12), (.quiet, 13), (.loud, 14), (.quiet, 15), (.quiet, 16), (.quiet, 17), (.quiet, 18), (.loud, 19), (.quiet, 20), (.loud, 21), (.quiet, 22), (.quiet, 23), (.loud, 24), (.quiet, 25), (.loud, 26), (.loud, 27), (.quiet, 28), (.quiet, 29), (.quiet, 30), (.loud, 31), (.quiet, 32), (.quiet, 33), (.loud, 34), (.quiet, 35), (.quiet, 36), (.quiet, 37), (.quiet, 38), (.loud, 39), (.quiet, 40), (.quiet, 41)] PP_mixed (by kernel_rfl) (by kernel_rfl) ?_ | refine zcq PP_mixed (by kernel_rfl) (by kernel_rfl) ?_
        repeat' (refine zap rfl ?_; first | refine zad rfl hm (hrd _ (by omega)) ?_ | (refine reg_rem rfl rfl (by omega) ?_; rw [hjt]) | refine zan rfl ?_ | refine zan rfl ?_ | refine zce rfl ?_ | refine zau rfl rfl (by omega) ?_ | refine zas rfl rfl (by omega) ?_ | refine zbz rfl (by omega) ?_)
        all_goals refine zch ?_
        all_goals repeat (first | refine zck ?_ | refine zcl ?_ | refine zcm ?_ | refine zcn ?_)
        repeat (first | refine zck ?_ | refine zcl ?_ | refine zcm ?_ | refine zcn ?_)
        first | refine zcp (by kernel_rfl) ?_ | refine zcr [(.quiet, 0), (.quiet, 1), (.quiet, 2), (.quiet, 3), (.quiet, 4), (.quiet, 5), (.quiet, 6), (.quiet, 7), (.quiet, 8), (.loud, 9), (.quiet, 10), (.quiet, 11), (.quiet, 12), (.quiet, 13), (.loud, 14), (.quiet, 15), (.quiet, 16), (.quiet, 17), (.quiet, 18), (.loud, 19), (.quiet, 20), (.loud, 21), (.quiet, 22), (.quiet, 23), (.loud, 24), (.quiet, 25), (.loud, 26), (.loud, 27), (.quiet, 28), (.quiet, 29), (.quiet, 30), (.loud, 31), (.quiet, 32), (.quiet, 33), (.loud, 34), (.quiet, 35), (.quiet, 36), (.quiet, 37), (.quiet, 38), (.loud, 39), (.quiet, 40), (.quiet, 41)] PP_mixed (by kernel_rfl) (by kernel_rfl) ?_ | refine zcq PP_mixed (by kernel_rfl) (by kernel_rfl) ?_
        repeat' (refine zap rfl ?_; first | refine reg_lookup_at (.tail _ hmb) rfl rfl (hgd _) ?_ | (refine zai [0] hS rfl rfl rfl (fun _ h => h) ?_; rintro v' Γ' ⟨⟨e, m', hok⟩, nb, kn2, rfl, rfl, hW3⟩) | refine zan rfl ?_ | refine zan rfl ?_ | refine zan rfl ?_)
        all_goals refine zch ?_
        all_goals repeat (first | refine zck ?_ | refine zcl ?_ | refine zcm ?_ | refine zcn ?_)
        by_cases he : e = 0
        · have hM3 := (hok.resolve_right (fun h => by have := h.1; omega)).2
          subst he
          repeat (first | refine zck ?_ | refine zcl ?_ | refine zcm ?_ | refine zcn ?_)
          first | refine zcp (by kernel_rfl) ?_ | refine zcr [(.quiet, 0), (.quiet, 1), (.quiet, 2), (.quiet, 3), (.quiet, 4), (.quiet, 5), (.quiet, 6), (.quiet, 7), (.quiet, 8), (.loud, 9), (.quiet, 10), (.quiet, 11), (.quiet, 12), (.quiet, 13), (.loud, 14), (.quiet, 15), (.quiet, 16), (.quiet, 17), (.quiet, 18), (.loud, 19), (.quiet, 20), (.loud, 21), (.quiet, 22), (.quiet, 23), (.loud, 24), (.quiet, 25), (.loud, 26), (.loud, 27), (.quiet, 28), (.quiet, 29), (.quiet, 30), (.loud, 31), (.quiet, 32), (.quiet, 33), (.loud, 34), (.quiet, 35), (.quiet, 36), (.quiet, 37), (.quiet, 38), (.loud, 39), (.quiet, 40), (.quiet, 41)] PP_mixed (by kernel_rfl) (by kernel_rfl) ?_ | refine zcq PP_mixed (by kernel_rfl) (by kernel_rfl) ?_
          repeat' (refine zap rfl ?_; first | refine zan rfl ?_ | refine zby rfl ?_)
          all_goals refine zch ?_
          all_goals repeat (first | refine zck ?_ | refine zcl ?_ | refine zcm ?_ | refine zcn ?_)
          refine zcj rfl ?_
          repeat (first | refine zck ?_ | refine zcl ?_ | refine zcm ?_ | refine zcn ?_ | refine zco ?_)
          repeat (first | refine zck ?_ | refine zcl ?_ | refine zcm ?_ | refine zcn ?_)
          first | refine zcp (by kernel_rfl) ?_ | refine zcr [(.quiet, 0), (.quiet, 1), (.quiet, 2), (.quiet, 3), (.quiet, 4), (.quiet, 5), (.quiet, 6), (.quiet, 7), (.quiet, 8), (.loud, 9), (.quiet, 10), (.quiet, 11), (.quiet, 12), (.quiet, 13), (.loud, 14), (.quiet, 15), (.quiet, 16), (.quiet, 17), (.quiet, 18), (.loud, 19), (.quiet, 20), (.loud, 21), (.quiet, 22), (.quiet, 23), (.loud, 24), (.quiet, 25), (.loud, 26), (.loud, 27), (.quiet, 28), (.quiet, 29), (.quiet, 30), (.loud, 31), (.quiet, 32), (.quiet, 33), (.loud, 34), (.quiet, 35), (.quiet, 36), (.quiet, 37), (.quiet, 38), (.loud, 39), (.quiet, 40), (.quiet, 41)] PP_mixed (by kernel_rfl) (by kernel_rfl) ?_ | refine zcq PP_mixed (by kernel_rfl) (by kernel_rfl) ?_
          repeat' (refine zap rfl ?_; first | refine zan rfl ?_ | refine zau rfl rfl (by omega) ?_)
          all_goals refine zch ?_
          all_goals repeat (first | refine zck ?_ | refine zcl ?_ | refine zcm ?_ | refine zcn ?_)
          refine cut_end ⟨rfl, (i + 1, nb, kn2, m'), ⟨rfl, rfl, rfl, rfl, rfl, rfl, rfl, rfl, rfl, int_eq (by dsimp only; omega), trivial⟩, ⟨rfl, hlt, ?_, hM3⟩, by dsimp only; omega⟩
          exact (show ((os.length : Int) + ((i + 1 : Nat) : Int)) = (os.length : Int) + (i : Int) + 1 by omega) ▸ hW3
        · have hbad := (hok.resolve_left (fun h => he h.1)).2.1
          rw [show decide (e = 0) = false from decide_eq_false he]
          repeat (first | refine zck ?_ | refine zcl ?_ | refine zcm ?_ | refine zcn ?_)
          first | refine zcp (by kernel_rfl) ?_ | refine zcr [(.quiet, 0), (.quiet, 1), (.quiet, 2), (.quiet, 3), (.quiet, 4), (.quiet, 5), (.quiet, 6), (.quiet, 7), (.quiet, 8), (.loud, 9), (.quiet, 10), (.quiet, 11), (.quiet, 12), (.quiet, 13), (.loud, 14), (.quiet, 15), (.quiet, 16), (.quiet, 17), (.quiet, 18), (.loud, 19), (.quiet, 20), (.loud, 21), (.quiet, 22), (.quiet, 23), (.loud, 24), (.quiet, 25), (.loud, 26), (.loud, 27), (.quiet, 28), (.quiet, 29), (.quiet, 30), (.loud, 31), (.quiet, 32), (.quiet, 33), (.loud, 34), (.quiet, 35), (.quiet, 36), (.quiet, 37), (.quiet, 38), (.loud, 39), (.quiet, 40), (.quiet, 41)] PP_mixed (by kernel_rfl) (by kernel_rfl) ?_ | refine zcq PP_mixed (by kernel_rfl) (by kernel_rfl) ?_
          repeat' (refine zap rfl ?_; first | refine zan rfl ?_ | refine zbx rfl ?_)
          all_goals refine zch ?_
          all_goals repeat (first | refine zck ?_ | refine zcl ?_ | refine zcm ?_ | refine zcn ?_)
          refine zci rfl ?_
          repeat' (first | refine zck ?_ | refine zcp (by kernel_rfl) ?_ | (refine zap rfl ?_; first | refine zaj rfl ?_ | refine zan rfl ?_ | refine zan rfl ?_ | refine zah [] hA rfl rfl rfl sub_nil rfl ?_ | refine zce rfl ?_ | refine zbk rfl rfl (by omega) ?_ | refine zau rfl rfl (by omega) ?_ | refine zbu rfl ?_) | refine zch ?_)
          exact cut_ret (leaves_nil (ends_take [] rfl (ends_one rfl rfl ⟨rfl, rfl, rfl⟩)))
      have hil : i = ks.length := by omega
      subst hil
      rw [← hrl, List.take_length] at hM2
      generalize hB2 : putAll f rot B1 = B2 at hM2
      repeat (first | refine zck ?_ | refine zcl ?_ | refine zcm ?_ | refine zcn ?_)
      first | refine zcp (by kernel_rfl) ?_ | refine zcr [(.quiet, 0), (.quiet, 1), (.quiet, 2), (.quiet, 3), (.quiet, 4), (.quiet, 5), (.quiet, 6), (.quiet, 7), (.quiet, 8), (.loud, 9), (.quiet, 10), (.quiet, 11), (.quiet, 12), (.quiet, 13), (.loud, 14), (.quiet, 15), (.quiet, 16), (.quiet, 17), (.quiet, 18), (.loud, 19), (.quiet, 20), (.loud, 21), (.quiet, 22), (.quiet, 23), (.loud, 24), (.quiet, 25), (.loud, 26), (.loud, 27), (.quiet, 28), (.quiet, 29), (.quiet, 30), (.loud, 31), (.quiet, 32), (.quiet, 33), (.loud, 34), (.quiet, 35), (.quiet, 36), (.quiet, 37), (.quiet, 38), (.loud, 39), (.quiet, 40), (.quiet, 41)] PP_mixed (by kernel_rfl) (by kernel_rfl) ?_ | refine zcq PP_mixed (by kernel_rfl) (by kernel_rfl) ?_
      repeat' (refine zap rfl ?_; first | refine zbh rfl rfl (by omega) ?_)
      all_goals refine zch ?_
      all_goals repeat (first | refine zck ?_ | refine zcl ?_ | refine zcm ?_ | refine zcn ?_)
      refine zcj rfl ?_
      refine cut_exit rfl rfl ?_
      repeat (first | refine zck ?_ | refine zcl ?_ | refine zcm ?_ | refine zcn ?_ | refine zco ?_)
      repeat (first | refine zck ?_ | refine zcl ?_ | refine zcm ?_ | refine zcn ?_)
      first | refine zcp (by kernel_rfl) ?_ | refine zcr [(.quiet, 0), (.quiet, 1), (.quiet, 2), (.quiet, 3), (.quiet, 4), (.quiet, 5), (.quiet, 6), (.quiet, 7), (.quiet, 8), (.loud, 9), (.quiet, 10), (.quiet, 11), (.quiet, 12), (.quiet, 13), (.loud, 14), (.quiet, 15), (.quiet, 16), (.quiet, 17), (.quiet, 18), (.loud, 19), (.quiet, 20), (.loud, 21), (.quiet, 22), (.quiet, 23), (.loud, 24), (.quiet, 25), (.loud, 26), (.loud, 27), (.quiet, 28), (.quiet, 29), (.quiet, 30), (.loud, 31), (.quiet, 32), (.quiet, 33), (.loud, 34), (.quiet, 35), (.quiet, 36), (.quiet, 37), (.quiet, 38), (.loud, 39), (.quiet, 40), (.quiet, 41)] PP_mixed (by kernel_rfl) (by kernel_rfl) ?_ | refine zcq PP_mixed (by kernel_rfl) (by kernel_rfl) ?_
      repeat' (refine zap rfl ?_; first | refine zan rfl ?_ | refine zce rfl ?_)
      all_goals refine zch ?_
      all_goals repeat (first | refine zck ?_ | refine zcl ?_ | refine zcm ?_ | refine zcn ?_)
      generalize hst : (fun k => (Vc.look ml k).isSome) = stay
      have hsta : ∀ k, stay k = (Vc.look ml k).isSome := fun k => by rw [← hst]
      refine run_slots [(7, .map (some mb)), (12, ptr tb), (14, .map (some aw)), (15, .map (some wb)), (174, .slice a2 os.length cap2), (175, .int .i64 os.length), (176, .int .i64 0)] ⟨rfl, rfl, rfl, rfl, rfl, rfl, rfl, trivial⟩ (fun junk => ?_)
      refine run_loop (S := Nat × Nat × List (Int × Wd) × (Int → Int) × Int) (fun st => [(7, .map (some mb)), (12, ptr tb), (14, .map (some aw)), (15, .map (some st.2.1)), (174, .slice a2 os.length cap2), (175, .int .i64 os.length), (176, .int .i64 (st.1 : Int))])
        (fun st Γ => Γ = [wdA st.2.1 st.2.2.1] ∧ st.1 ≤ os.length ∧ WM 544 st.2.2.2.2 st.2.2.1 st.2.2.2.1 ∧ TOk 60 hsI (fun _ => true) st.2.2.2.1 (dropAll stay (os.take st.1) B2) ∧ st.2.2.2.2 ≤ os.length + ks.length + st.1) (fun st => os.length - st.1) (0, wb, kn, m, os.length + ks.length) ⟨rfl, rfl, rfl, rfl, rfl, rfl, rfl, trivial⟩ ⟨rfl, Nat.zero_le _, hW2, hM2, by dsimp only; omega⟩ ?_
      rintro ⟨i, wb, kn, m, N⟩ Γ junk ⟨rfl, hi4, hW3, hM3, hN⟩
      dsimp only at hi4 hW3 hM3 hN ⊢
      by_cases hlt : i < os.length
      · have hx : os[i]? = some os[i] := List.getElem?_eq_getElem hlt
        have htk : os.take (i + 1) = os.take i ++ [os[i]] := by rw [List.take_add_one, hx]; rfl
        generalize os[i] = x at hx htk
        have hds := dropAll_snoc stay (os.take i) x B2
        rw [← htk, hsta] at hds
        obtain ⟨b, off, cc, TT, fr, e2, hm, hrd⟩ := hOs.at hx
        subst e2
        repeat (first | refine zck ?_ | refine zcl ?_ | refine zcm ?_ | refine zcn ?_)
        first | refine zcp (by kernel_rfl) ?_ | refine zcr [(.quiet, 0), (.quiet, 1), (.quiet, 2), (.quiet, 3), (.quiet, 4), (.quiet, 5), (.quiet, 6), (.quiet, 7), (.quiet, 8), (.loud, 9), (.quiet, 10), (.quiet, 11), (.quiet, 12), (.quiet, 13), (.loud, 14), (.quiet, 15), (.quiet, 16), (.quiet, 17), (.quiet, 18), (.loud, 19), (.quiet, 20), (.loud, 21), (.quiet, 22), (.quiet, 23), (.loud, 24), (.quiet, 25), (.loud, 26), (.loud, 27), (.quiet, 28), (.quiet, 29), (.quiet, 30), (.loud, 31), (.quiet, 32), (.quiet, 33), (.loud, 34), (.quiet, 35), (.quiet, 36), (.quiet, 37), (.quiet, 38), (.loud, 39), (.quiet, 40), (.quiet, 41)] PP_mixed (by kernel_rfl) (by kernel_rfl) ?_ | refine zcq PP_mixed (by kernel_rfl) (by kernel_rfl) ?_
        repeat' (refine zap rfl ?_; first | refine zbg rfl rfl (by omega) ?_)
        all_goals refine zch ?_
        all_goals repeat (first | refine zck ?_ | refine zcl ?_ | refine zcm ?_ | refine zcn ?_)
        refine zci rfl ?_
        repeat (first | refine zck ?_ | refine zcl ?_ | refine zcm ?_ | refine zcn ?_)
        first | refine zcp (by kernel_rfl) ?_ | refine zcr [(.quiet, 0), (.quiet, 1), (.quiet, 2), (.quiet, 3), (.quiet, 4), (.quiet, 5), (.quiet, 6), (.quiet, 7), (.quiet, 8), (.loud, 9), (.quiet, 10), (.quiet, 11), (.quiet, 12), (.quiet, 13), (.loud, 14), (.quiet, 15), (.quiet, 16), (.quiet, 17), (.quiet, 18), (.loud, 19), (.quiet, 20), (.loud, 21), (.quiet, 22), (.quiet, 23), (.loud, 24), (.quiet, 25), (.loud, 26), (.loud, 27), (.quiet, 28), (.quiet, 29), (.quiet, 30), (.loud, 31), (.quiet, 32), (.quiet, 33), (.loud, 34), (.quiet, 35), (.quiet, 36), (.quiet, 37), (.quiet, 38), (.loud, 39), (.quiet, 40), (.quiet, 41)] PP_mixed (by kernel_rfl) (by kernel_rfl) ?_ | refine zcq PP_mixed (by kernel_rfl) (by kernel_rfl) ?_
        repeat' (refine zap rfl ?_; first | refine zad rfl hm (hrd _ (by omega)) ?_ | refine zae 1 rfl rfl rfl rfl rfl rfl rfl ?_ | refine zas rfl rfl (by omega) ?_ | refine zar (fun nb => ?_))
        all_goals refine zch ?_
        all_goals repeat (first | refine zck ?_ | refine zcl ?_ | refine zcm ?_ | refine zcn ?_)
        revert nb; intro kb
        repeat (first | refine zck ?_ | refine zcl ?_ | refine zcm ?_ | refine zcn ?_)
        first | refine zcp (by kernel_rfl) ?_ | refine zcr [(.quiet, 0), (.quiet, 1), (.quiet, 2), (.quiet, 3), (.quiet, 4), (.quiet, 5), (.quiet, 6), (.quiet, 7), (.quiet, 8), (.loud, 9), (.quiet, 10), (.quiet, 11), (.quiet, 12), (.quiet, 13), (.loud, 14), (.quiet, 15), (.quiet, 16), (.quiet, 17), (.quiet, 18), (.loud, 19), (.quiet, 20), (.loud, 21), (.quiet, 22), (.quiet, 23), (.loud, 24), (.quiet, 25), (.loud, 26), (.loud, 27), (.quiet, 28), (.quiet, 29), (.quiet, 30), (.loud, 31), (.quiet, 32), (.quiet, 33), (.loud, 34), (.quiet, 35), (.quiet, 36), (.quiet, 37), (.quiet, 38), (.loud, 39), (.quiet, 40), (.quiet, 41)] PP_mixed (by kernel_rfl) (by kernel_rfl) ?_ | refine zcq PP_mixed (by kernel_rfl) (by kernel_rfl) ?_
        repeat' (refine zap rfl ?_; first | refine reg_lookup_at (ok := true) (.tail _ hmb) rfl rfl rfl ?_ | refine zan rfl ?_ | refine zan rfl ?_ | refine zab 1 rfl rfl rfl ?_ | refine zan rfl ?_)
        all_goals refine zch ?_
        all_goals repeat (first | refine zck ?_ | refine zcl ?_ | refine zcm ?_ | refine zcn ?_)
        cases hu : (Vc.look ml x).isSome with
        | true =>
          rw [hu, if_pos rfl] at hds
          repeat (first | refine zck ?_ | refine zcl ?_ | refine zcm ?_ | refine zcn ?_)
          first | refine zcp (by kernel_rfl) ?_ | refine zcr [(.quiet, 0), (.quiet, 1), (.quiet, 2), (.quiet, 3), (.quiet, 4), (.quiet, 5), (.quiet, 6), (.quiet, 7), (.quiet, 8), (.loud, 9), (.quiet, 10), (.quiet, 11), (.quiet, 12), (.quiet, 13), (.loud, 14), (.quiet, 15), (.quiet, 16), (.quiet, 17), (.quiet, 18), (.loud, 19), (.quiet, 20), (.loud, 21), (.quiet, 22), (.quiet, 23), (.loud, 24), (.quiet, 25), (.loud, 26), (.loud, 27), (.quiet, 28), (.quiet, 29), (.quiet, 30), (.loud, 31), (.quiet, 32), (.quiet, 33), (.loud, 34), (.quiet, 35), (.quiet, 36), (.quiet, 37), (.quiet, 38), (.loud, 39), (.quiet, 40), (.quiet, 41)] PP_mixed (by kernel_rfl) (by kernel_rfl) ?_ | refine zcq PP_mixed (by kernel_rfl) (by kernel_rfl) ?_
          repeat' (refine zap rfl ?_; first | refine zan rfl ?_ | refine zbx rfl ?_)
          all_goals refine zch ?_
          all_goals repeat (first | refine zck ?_ | refine zcl ?_ | refine zcm ?_ | refine zcn ?_)
          refine zcj rfl ?_
          repeat (first | refine zck ?_ | refine zcl ?_ | refine zcm ?_ | refine zcn ?_ | refine zco ?_)
          repeat (first | refine zck ?_ | refine zcl ?_ | refine zcm ?_ | refine zcn ?_)
          first | refine zcp (by kernel_rfl) ?_ | refine zcr [(.quiet, 0), (.quiet, 1), (.quiet, 2), (.quiet, 3), (.quiet, 4), (.quiet, 5), (.quiet, 6), (.quiet, 7), (.quiet, 8), (.loud, 9), (.quiet, 10), (.quiet, 11), (.quiet, 12), (.quiet, 13), (.loud, 14), (.quiet, 15), (.quiet, 16), (.quiet, 17), (.quiet, 18), (.loud, 19), (.quiet, 20), (.loud, 21), (.quiet, 22), (.quiet, 23), (.loud, 24), (.quiet, 25), (.loud, 26), (.loud, 27), (.quiet, 28), (.quiet, 29), (.quiet, 30), (.loud, 31), (.quiet, 32), (.quiet, 33), (.loud, 34), (.quiet, 35), (.quiet, 36), (.quiet, 37), (.quiet, 38), (.loud, 39), (.quiet, 40), (.quiet, 41)] PP_mixed (by kernel_rfl) (by kernel_rfl) ?_ | refine zcq PP_mixed (by kernel_rfl) (by kernel_rfl) ?_
          repeat' (refine zap rfl ?_; first | refine zan rfl ?_ | refine zau rfl rfl (by omega) ?_)
          all_goals refine zch ?_
          all_goals repeat (first | refine zck ?_ | refine zcl ?_ | refine zcm ?_ | refine zcn ?_)
          refine run_take [0] rfl ?_
          refine cut_end ⟨rfl, (i + 1, wb, kn, m, N), ⟨rfl, rfl, rfl, rfl, rfl, rfl, int_eq (by dsimp only; omega), trivial⟩, ⟨rfl, hlt, hW3, ?_, by dsimp only; omega⟩, by dsimp only; omega⟩
          dsimp only
          rw [hds]
          exact hM3
        | false =>
          rw [hu, if_neg (by decide)] at hds
          generalize dropAll stay (os.take i) B2 = L at hM3 hds
          repeat (first | refine zck ?_ | refine zcl ?_ | refine zcm ?_ | refine zcn ?_)
          first | refine zcp (by kernel_rfl) ?_ | refine zcr [(.quiet, 0), (.quiet, 1), (.quiet, 2), (.quiet, 3), (.quiet, 4), (.quiet, 5), (.quiet, 6), (.quiet, 7), (.quiet, 8), (.loud, 9), (.quiet, 10), (.quiet, 11), (.quiet, 12), (.quiet, 13), (.loud, 14), (.quiet, 15), (.quiet, 16), (.quiet, 17), (.quiet, 18), (.loud, 19), (.quiet, 20), (.loud, 21), (.quiet, 22), (.quiet, 23), (.loud, 24), (.quiet, 25), (.loud, 26), (.loud, 27), (.quiet, 28), (.quiet, 29), (.quiet, 30), (.loud, 31), (.quiet, 32), (.quiet, 33), (.loud, 34), (.quiet, 35), (.quiet, 36), (.quiet, 37), (.quiet, 38), (.loud, 39), (.quiet, 40), (.quiet, 41)] PP_mixed (by kernel_rfl) (by kernel_rfl) ?_ | refine zcq PP_mixed (by kernel_rfl) (by kernel_rfl) ?_
          repeat' (refine zap rfl ?_; first | refine zan rfl ?_ | refine zbx rfl ?_)
          all_goals refine zch ?_
          all_goals repeat (first | refine zck ?_ | refine zcl ?_ | refine zcm ?_ | refine zcn ?_)
          refine zci rfl ?_
          refine run_share [1] rfl ?_
          refine run_share [0] rfl ?_
          refine run_pack [] rfl ?_
          have hD := done_mem (σ := Bq 60 (rdrop L x)) w0 ((kb, intC x) :: (aw, mapI (knM kna)) :: sh) wb kn 544 N m (by omega) hW3 30 (List.toArray [ptr tb, ptr kb]) (StarsA []) (fun _ => StarsA []) (fun st => st.m)
            (fun p s hC _ => shDrop1 w0 _ p tb kb hK hM3 x (.tail _ (.tail _ htb)) (.head _) s hC)
          repeat (first | refine zck ?_ | refine zcl ?_ | refine zcm ?_ | refine zcn ?_)
          first | refine zcp (by kernel_rfl) ?_ | refine zcr [(.quiet, 0), (.quiet, 1), (.quiet, 2), (.quiet, 3), (.quiet, 4), (.quiet, 5), (.quiet, 6), (.quiet, 7), (.quiet, 8), (.loud, 9), (.quiet, 10), (.quiet, 11), (.quiet, 12), (.quiet, 13), (.loud, 14), (.quiet, 15), (.quiet, 16), (.quiet, 17), (.quiet, 18), (.loud, 19), (.quiet, 20), (.loud, 21), (.quiet, 22), (.quiet, 23), (.loud, 24), (.quiet, 25), (.loud, 26), (.loud, 27), (.quiet, 28), (.quiet, 29), (.quiet, 30), (.loud, 31), (.quiet, 32), (.quiet, 33), (.loud, 34), (.quiet, 35), (.quiet, 36), (.quiet, 37), (.quiet, 38), (.loud, 39), (.quiet, 40), (.quiet, 41)] PP_mixed (by kernel_rfl) (by kernel_rfl) ?_ | refine zcq PP_mixed (by kernel_rfl) (by kernel_rfl) ?_
          repeat' (refine zap rfl ?_; first | refine zan rfl ?_ | refine zan rfl ?_ | (refine zai [0] hD rfl rfl rfl (fun _ h => h) ?_; rintro v' Γ' ⟨⟨m', hok⟩, nb, wa, wl, wc, kn2, rfl, rfl, hW4⟩) | refine zan rfl ?_ | refine zan rfl ?_)
          all_goals refine zch ?_
          all_goals repeat (first | refine zck ?_ | refine zcl ?_ | refine zcm ?_ | refine zcn ?_)
          repeat (first | refine zck ?_ | refine zcl ?_ | refine zcm ?_ | refine zcn ?_)
          first | refine zcp (by kernel_rfl) ?_ | refine zcr [(.quiet, 0), (.quiet, 1), (.quiet, 2), (.quiet, 3), (.quiet, 4), (.quiet, 5), (.quiet, 6), (.quiet, 7), (.quiet, 8), (.loud, 9), (.quiet, 10), (.quiet, 11), (.quiet, 12), (.quiet, 13), (.loud, 14), (.quiet, 15), (.quiet, 16), (.quiet, 17), (.quiet, 18), (.loud, 19), (.quiet, 20), (.loud, 21), (.quiet, 22), (.quiet, 23), (.loud, 24), (.quiet, 25), (.loud, 26), (.loud, 27), (.quiet, 28), (.quiet, 29), (.quiet, 30), (.loud, 31), (.quiet, 32), (.quiet, 33), (.loud, 34), (.quiet, 35), (.quiet, 36), (.quiet, 37), (.quiet, 38), (.loud, 39), (.quiet, 40), (.quiet, 41)] PP_mixed (by kernel_rfl) (by kernel_rfl) ?_ | refine zcq PP_mixed (by kernel_rfl) (by kernel_rfl) ?_
          repeat' (refine zap rfl ?_; first | refine zan rfl ?_ | refine zbx rfl ?_)
          all_goals refine zch ?_
          all_goals repeat (first | refine zck ?_ | refine zcl ?_ | refine zcm ?_ | refine zcn ?_)
          refine zcj rfl ?_
          repeat (first | refine zck ?_ | refine zcl ?_ | refine zcm ?_ | refine zcn ?_ | refine zco ?_)
          repeat (first | refine zck ?_ | refine zcl ?_ | refine zcm ?_ | refine zcn ?_)
          first | refine zcp (by kernel_rfl) ?_ | refine zcr [(.quiet, 0), (.quiet, 1), (.quiet, 2), (.quiet, 3), (.quiet, 4), (.quiet, 5), (.quiet, 6), (.quiet, 7), (.quiet, 8), (.loud, 9), (.quiet, 10), (.quiet, 11), (.quiet, 12), (.quiet, 13), (.loud, 14), (.quiet, 15), (.quiet, 16), (.quiet, 17), (.quiet, 18), (.loud, 19), (.quiet, 20), (.loud, 21), (.quiet, 22), (.quiet, 23), (.loud, 24), (.quiet, 25), (.loud, 26), (.loud, 27), (.quiet, 28), (.quiet, 29), (.quiet, 30), (.loud, 31), (.quiet, 32), (.quiet, 33), (.loud, 34), (.quiet, 35), (.quiet, 36), (.quiet, 37), (.quiet, 38), (.loud, 39), (.quiet, 40), (.quiet, 41)] PP_mixed (by kernel_rfl) (by kernel_rfl) ?_ | refine zcq PP_mixed (by kernel_rfl) (by kernel_rfl) ?_
          repeat' (refine zap rfl ?_; first | refine zan rfl ?_ | refine zan rfl ?_)
          all_goals refine zch ?_
          all_goals repeat (first | refine zck ?_ | refine zcl ?_ | refine zcm ?_ | refine zcn ?_)
          repeat (first | refine zck ?_ | refine zcl ?_ | refine zcm ?_ | refine zcn ?_)
          first | refine zcp (by kernel_rfl) ?_ | refine zcr [(.quiet, 0), (.quiet, 1), (.quiet, 2), (.quiet, 3), (.quiet, 4), (.quiet, 5), (.quiet, 6), (.quiet, 7), (.quiet, 8), (.loud, 9), (.quiet, 10), (.quiet, 11), (.quiet, 12), (.quiet, 13), (.loud, 14), (.quiet, 15), (.quiet, 16), (.quiet, 17), (.quiet, 18), (.loud, 19), (.quiet, 20), (.loud, 21), (.quiet, 22), (.quiet, 23), (.loud, 24), (.quiet, 25), (.loud, 26), (.loud, 27), (.quiet, 28), (.quiet, 29), (.quiet, 30), (.loud, 31), (.quiet, 32), (.quiet, 33), (.loud, 34), (.quiet, 35), (.quiet, 36), (.quiet, 37), (.quiet, 38), (.loud, 39), (.quiet, 40), (.quiet, 41)] PP_mixed (by kernel_rfl) (by kernel_rfl) ?_ | refine zcq PP_mixed (by kernel_rfl) (by kernel_rfl) ?_
          repeat' (refine zap rfl ?_; first | refine zan rfl ?_ | refine zau rfl rfl (by omega) ?_)
          all_goals refine zch ?_
          all_goals repeat (first | refine zck ?_ | refine zcl ?_ | refine zcm ?_ | refine zcn ?_)
          refine run_take [0] rfl ?_
          refine cut_end ⟨rfl, (i + 1, nb, kn2, m', N + 1), ⟨rfl, rfl, rfl, rfl, rfl, rfl, int_eq (by dsimp only; omega), trivial⟩, ⟨rfl, hlt, hW4, ?_, by dsimp only; omega⟩, by dsimp only; omega⟩
          dsimp only
          rw [hds]
          exact hok
      have hil : i = os.length := by omega
      subst hil
      rw [List.take_length] at hM3
      have hstk : ∀ k, stay k = true ↔ k ∈ ks := fun k => by
        rw [hsta, ← hKI.mem k]
        cases Vc.look ml k <;> simp
      have hshp := shapes_law (f := f) (g := fun _ => 7) (ks := ks) (rot := rot) (os := os) (fun k => hrt ▸ rotL_mem ks tn.toNat k) hstk
      rw [hB, hB2] at hshp
      rw [hshp] at hM3
      generalize putAll f ks [] = L at hM hM3
      repeat (first | refine zck ?_ | refine zcl ?_ | refine zcm ?_ | refine zcn ?_)
      first | refine zcp (by kernel_rfl) ?_ | refine zcr [(.quiet, 0), (.quiet, 1), (.quiet, 2), (.quiet, 3), (.quiet, 4), (.quiet, 5), (.quiet, 6), (.quiet, 7), (.quiet, 8), (.loud, 9), (.quiet, 10), (.quiet, 11), (.quiet, 12), (.quiet, 13), (.loud, 14), (.quiet, 15), (.quiet, 16), (.quiet, 17), (.quiet, 18), (.loud, 19), (.quiet, 20), (.loud, 21), (.quiet, 22), (.quiet, 23), (.loud, 24), (.quiet, 25), (.loud, 26), (.loud, 27), (.quiet, 28), (.quiet, 29), (.quiet, 30), (.loud, 31), (.quiet, 32), (.quiet, 33), (.loud, 34), (.quiet, 35), (.quiet, 36), (.quiet, 37), (.quiet, 38), (.loud, 39), (.quiet, 40), (.quiet, 41)] PP_mixed (by kernel_rfl) (by kernel_rfl) ?_ | refine zcq PP_mixed (by kernel_rfl) (by kernel_rfl) ?_
      repeat' (refine zap rfl ?_; first | refine zbh rfl rfl (by omega) ?_)
      all_goals refine zch ?_
      all_goals repeat (first | refine zck ?_ | refine zcl ?_ | refine zcm ?_ | refine zcn ?_)
      refine zcj rfl ?_
      refine cut_exit rfl rfl ?_
      refine run_share [0] rfl ?_
      repeat (first | refine zck ?_ | refine zcl ?_ | refine zcm ?_ | refine zcn ?_ | refine zco ?_)
      repeat (first | refine zck ?_ | refine zcl ?_ | refine zcm ?_ | refine zcn ?_)
      first | refine zcp (by kernel_rfl) ?_ | refine zcr [(.quiet, 0), (.quiet, 1), (.quiet, 2), (.quiet, 3), (.quiet, 4), (.quiet, 5), (.quiet, 6), (.quiet, 7), (.quiet, 8), (.loud, 9), (.quiet, 10), (.quiet, 11), (.quiet, 12), (.quiet, 13), (.loud, 14), (.quiet, 15), (.quiet, 16), (.quiet, 17), (.quiet, 18), (.loud, 19), (.quiet, 20), (.loud, 21), (.quiet, 22), (.quiet, 23), (.loud, 24), (.quiet, 25), (.loud, 26), (.loud, 27), (.quiet, 28), (.quiet, 29), (.quiet, 30), (.loud, 31), (.quiet, 32), (.quiet, 33), (.loud, 34), (.quiet, 35), (.quiet, 36), (.quiet, 37), (.quiet, 38), (.loud, 39), (.quiet, 40), (.quiet, 41)] PP_mixed (by kernel_rfl) (by kernel_rfl) ?_ | refine zcq PP_mixed (by kernel_rfl) (by kernel_rfl) ?_
      repeat' (refine zap rfl ?_; first | refine zar (fun nb => ?_))
      all_goals refine zch ?_
      all_goals repeat (first | refine zck ?_ | refine zcl ?_ | refine zcm ?_ | refine zcn ?_)
      rename_i k1 k2 v1
      revert nb; intro v2
      repeat (first | refine zck ?_ | refine zcl ?_ | refine zcm ?_ | refine zcn ?_)
      first | refine zcp (by kernel_rfl) ?_ | refine zcr [(.quiet, 0), (.quiet, 1), (.quiet, 2), (.quiet, 3), (.quiet, 4), (.quiet, 5), (.quiet, 6), (.quiet, 7), (.quiet, 8), (.loud, 9), (.quiet, 10), (.quiet, 11), (.quiet, 12), (.quiet, 13), (.loud, 14), (.quiet, 15), (.quiet, 16), (.quiet, 17), (.quiet, 18), (.loud, 19), (.quiet, 20), (.loud, 21), (.quiet, 22), (.quiet, 23), (.loud, 24), (.quiet, 25), (.loud, 26), (.loud, 27), (.quiet, 28), (.quiet, 29), (.quiet, 30), (.loud, 31), (.quiet, 32), (.quiet, 33), (.loud, 34), (.quiet, 35), (.quiet, 36), (.quiet, 37), (.quiet, 38), (.loud, 39), (.quiet, 40), (.quiet, 41)] PP_mixed (by kernel_rfl) (by kernel_rfl) ?_ | refine zcq PP_mixed (by kernel_rfl) (by kernel_rfl) ?_
      repeat' (refine zap rfl ?_; first | refine zar (fun nb => ?_))
      all_goals refine zch ?_
      all_goals repeat (first | refine zck ?_ | refine zcl ?_ | refine zcm ?_ | refine zcn ?_)
      rename_i e1
      revert nb; intro e2
      refine run_pack [0, 1, 2] rfl ?_
      have hD3 := done_mem (σ := Bx) w0 [(tb, trC 60)] aw kna 544 ks.length ma (by omega) hW 31 (List.toArray [ptr tb, ptr k1, ptr v1, ptr e1]) (StarsA [slB k1 none 0 0, slB v1 none 0 0, erB e1 0]) (fun st => st.A L k1 v1 e1) (fun _ => ma)
        (fun p s hC _ => (shWalk3 w0 _ p tb k1 v1 e1 hK hM (.head _) s hC).mono (fun v Γ ⟨st, s', g1, g2, g3⟩ => ⟨st, s', 0, g1, g2, by decide, g3⟩))
      have hD4 := done_mem (σ := Bx) w0 [(tb, trC 60)] wb kn 544 N m (by omega) hW3 32 (List.toArray [ptr tb, ptr k2, ptr v2, ptr e2]) (StarsA [slB k2 none 0 0, slB v2 none 0 0, erB e2 0]) (fun st => st.A L k2 v2 e2) (fun _ => m)
        (fun p s hC _ => (shWalk4 w0 _ p tb k2 v2 e2 hK hM3 (.head _) s hC).mono (fun v Γ ⟨st, s', g1, g2, g3⟩ => ⟨st, s', 0, g1, g2, by decide, g3⟩))
      have hs3 : ∀ p ∈ [(aw, mapI (knM kna)), (tb, trC 60)], p ∈ (wb, mapI (knM kn)) :: (aw, mapI (knM kna)) :: sh := fun p hp => by
        rcases List.mem_cons.1 hp with e | hp
        · subst e; exact .tail _ (.head _)
        · rw [List.mem_singleton.1 hp]; exact .tail _ (.tail _ htb)
      have hs4 : ∀ p ∈ [(wb, mapI (knM kn)), (tb, trC 60)], p ∈ (wb, mapI (knM kn)) :: (aw, mapI (knM kna)) :: sh := fun p hp => by
        rcases List.mem_cons.1 hp with e | hp
        · subst e; exact .head _
        · rw [List.mem_singleton.1 hp]; exact .tail _ (.tail _ htb)
      repeat (first | refine zck ?_ | refine zcl ?_ | refine zcm ?_ | refine zcn ?_)
      first | refine zcp (by kernel_rfl) ?_ | refine zcr [(.quiet, 0), (.quiet, 1), (.quiet, 2), (.quiet, 3), (.quiet, 4), (.quiet, 5), (.quiet, 6), (.quiet, 7), (.quiet, 8), (.loud, 9), (.quiet, 10), (.quiet, 11), (.quiet, 12), (.quiet, 13), (.loud, 14), (.quiet, 15), (.quiet, 16), (.quiet, 17), (.quiet, 18), (.loud, 19), (.quiet, 20), (.loud, 21), (.quiet, 22), (.quiet, 23), (.loud, 24), (.quiet, 25), (.loud, 26), (.loud, 27), (.quiet, 28), (.quiet, 29), (.quiet, 30), (.loud, 31), (.quiet, 32), (.quiet, 33), (.loud, 34), (.quiet, 35), (.quiet, 36), (.quiet, 37), (.quiet, 38), (.loud, 39), (.quiet, 40), (.quiet, 41)] PP_mixed (by kernel_rfl) (by kernel_rfl) ?_ | refine zcq PP_mixed (by kernel_rfl) (by kernel_rfl) ?_
      repeat' (refine zap rfl ?_; first | refine zan rfl ?_ | (refine zai [0] hD3 rfl rfl rfl hs3 ?_; rintro v' Γ' ⟨⟨p1, q1, p2, q2⟩, nb3, wa, wl, wc, kn3, rfl, rfl, _⟩) | refine zan rfl ?_)
      all_goals refine zch ?_
      all_goals repeat (first | refine zck ?_ | refine zcl ?_ | refine zcm ?_ | refine zcn ?_)
      refine run_pack [2, 2, 2] rfl ?_
      repeat (first | refine zck ?_ | refine zcl ?_ | refine zcm ?_ | refine zcn ?_)
      first | refine zcp (by kernel_rfl) ?_ | refine zcr [(.quiet, 0), (.quiet, 1), (.quiet, 2), (.quiet, 3), (.quiet, 4), (.quiet, 5), (.quiet, 6), (.quiet, 7), (.quiet, 8), (.loud, 9), (.quiet, 10), (.quiet, 11), (.quiet, 12), (.quiet, 13), (.loud, 14), (.quiet, 15), (.quiet, 16), (.quiet, 17), (.quiet, 18), (.loud, 19), (.quiet, 20), (.loud, 21), (.quiet, 22), (.quiet, 23), (.loud, 24), (.quiet, 25), (.loud, 26), (.loud, 27), (.quiet, 28), (.quiet, 29), (.quiet, 30), (.loud, 31), (.quiet, 32), (.quiet, 33), (.loud, 34), (.quiet, 35), (.quiet, 36), (.quiet, 37), (.quiet, 38), (.loud, 39), (.quiet, 40), (.quiet, 41)] PP_mixed (by kernel_rfl) (by kernel_rfl) ?_ | refine zcq PP_mixed (by kernel_rfl) (by kernel_rfl) ?_
      repeat' (refine zap rfl ?_; first | refine zan rfl ?_ | (refine zai [0] hD4 rfl rfl rfl hs4 ?_; rintro v' Γ' ⟨⟨p3, q3, p4, q4⟩, nb4, wa4, wl4, wc4, kn4, rfl, rfl, _⟩) | refine zan rfl ?_)
      all_goals refine zch ?_
      all_goals repeat (first | refine zck ?_ | refine zcl ?_ | refine zcm ?_ | refine zcn ?_)
      dsimp only [Bx.A]
      refine run_unpack [1] rfl ?_
      refine run_unpack [7] rfl ?_
      refine run_share [0] rfl ?_
      refine run_share [0] rfl ?_
      refine run_share [0] rfl ?_
      refine run_share [2] rfl ?_
      refine run_share [2] rfl ?_
      refine run_share [2] rfl ?_
      refine run_lend [0] rfl fun s1 i1 r1 => ?_
      refine run_lend [0] rfl fun s2 i2 r2 => ?_
      refine run_lend [0] rfl fun s3 i3 r3 => ?_
      refine run_lend [0] rfl fun s4 i4 r4 => ?_
      have hin : ∀ p ∈ (e2, Obj.cells (List.toArray [.int .i64 0]) 69 (0, 0)) :: (v2, .cells (List.toArray [.slice p4 (L.map (·.n)).length q4]) 62 (0, 0)) :: (k2, .cells (List.toArray [.slice p3 (L.map (·.n)).length q3]) 62 (0, 0)) :: (e1, .cells (List.toArray [.int .i64 0]) 69 (0, 0)) :: (v1, .cells (List.toArray [.slice p2 (L.map (·.n)).length q2]) 62 (0, 0)) :: (k1, .cells (List.toArray [.slice p1 (L.map (·.n)).length q1]) 62 (0, 0)) :: (wb, mapI (knM kn)) :: (aw, mapI (knM kna)) :: sh, p ∈ s4 := fun p hp => i4 p (i3 p (i2 p (i1 p hp)))
      have H : ∀ (b : Nat) (o : Obj), (b, o) ∈ s4 → ∀ hF Γ w, Sh s4 hF → St w0 hF Γ w → w.heap[b]? = some o := fun b o hm hF Γ w h1 h2 => (h2.frame (h1 _ hm)).2
      have he2 := H _ _ (hin _ (.head _))
      have hv2 := H _ _ (hin _ (.tail _ (.head _)))
      have hk2 := H _ _ (hin _ (.tail _ (.tail _ (.head _))))
      have he1 := H _ _ (hin _ (.tail _ (.tail _ (.tail _ (.head _)))))
      have hv1 := H _ _ (hin _ (.tail _ (.tail _ (.tail _ (.tail _ (.head _))))))
      have hk1 := H _ _ (hin _ (.tail _ (.tail _ (.tail _ (.tail _ (.tail _ (.head _)))))))
      have hwb := hin _ (.tail _ (.tail _ (.tail _ (.tail _ (.tail _ (.tail _ (.head _)))))))
      have haw := hin _ (.tail _ (.tail _ (.tail _ (.tail _ (.tail _ (.tail _ (.tail _ (.head _))))))))
      clear hin H
      have hfew := (hM.few hK).2.2
      have l1 : (L.map (·.n)).length ≤ 1000000000 := by rw [List.length_map]; omega
      have l2 : (L.map (·.v)).length = (L.map (·.n)).length := by rw [List.length_map, List.length_map]
      have hE1 := equal64_spec w0 s4 p1 p3 q1 q3 (L.map (·.n)) (r1.mono fun p hp => i4 p (i3 p (i2 p hp))) (r3.mono i4) l1
      have hE2 := equal64_spec w0 s4 p2 p4 q2 q4 (L.map (·.v)) (by rw [l2]; exact r2.mono fun p hp => i4 p (i3 p hp)) (by rw [l2]; exact r4) (by rw [l2]; exact l1)
      rw [l2] at hE2
      have va16 : ((lookW kna 16).getD ⟨0, 0, 0⟩).val = valW kna 16 := by rw [valW_getD]
      have vb16 : ((lookW kn 16).getD ⟨0, 0, 0⟩).val = valW kn 16 := by rw [valW_getD]
      have va23 : ((lookW kna 23).getD ⟨0, 0, 0⟩).val = (rnodes L : Int) := by rw [valW_getD]; exact (hW.val 23 (by decide) (by decide)).trans hM.n23
      have vb23 : ((lookW kn 23).getD ⟨0, 0, 0⟩).val = (rnodes L : Int) := by rw [valW_getD]; exact (hW3.val 23 (by decide) (by decide)).trans hM3.n23
      obtain ⟨ba1, ba2⟩ := hM.branches (mm := valW kna) hK (fun a h0 h1 => hW.val a h0 h1)
      obtain ⟨bb1, bb2⟩ := hM3.branches (mm := valW kn) hK (fun a h0 h1 => hW3.val a h0 h1)
      have hBa := branches_spec w0 aw kna 5 (valW kna 16) 0 (by decide) (by decide) ba2
      have hBb := branches_spec w0 wb kn 5 (valW kn 16) 0 (by decide) (by decide) bb2
      have hbl : (brF L 5 0 0).length ≤ 1000000000 := by rw [← ba1]; exact Nat.le_trans (brM_len _ 5 _ _) (by decide)
      rw [ba1] at hBa
      rw [bb1] at hBb
      generalize brF L 5 0 0 = W at hBa hBb hbl
      generalize valW kna 16 = xa at va16 hBa
      generalize valW kn 16 = xb at vb16 hBb
      generalize (rnodes L : Int) = rn at va23 vb23
      have hEI : ∀ (pa pb : Option Addr) (ca cb : Nat), Vc.Fn PP w0 s4 34 [.slice pa W.length ca, .slice pb W.length cb] [SlA 3 1 pa W.length ca (intsV W), SlA 3 1 pb W.length cb (intsV W)] (fun r _ => r = .bool true) := fun pa pb ca cb =>
        ((Fn.lend en34 (fun s1 i1 r1 => Fn.lend en34 fun s2 i2 r2 => equalI_spec w0 s2 pa pb ca cb W (r1.mono i2) r2 hbl)).conv (fun _ h => stars_two LstA.ofSl LstA.ofSl h)).mono (fun v Γ ⟨Γ1, ⟨Γ2, ⟨h1, _⟩, _⟩, _⟩ => h1)
      refine run_slots [(14, .map (some aw)), (15, .map (some wb)), (30, ptr k1), (31, ptr k2), (32, ptr v1), (33, ptr v2), (34, ptr e1), (35, ptr e2)] ⟨rfl, rfl, rfl, rfl, rfl, rfl, rfl, rfl, trivial⟩ (fun junk => ?_)
      clear hr hro hOs hR hR2 hKI hstk hsta hgd hD3 hD4 hs3 hs4 r1 r2 r3 r4 hW hW3 hM hM3 ba1 ba2 bb1 bb2 hW0 hF hI
      refine zcr [(.quiet, 0), (.quiet, 1), (.quiet, 2), (.quiet, 3), (.quiet, 4), (.quiet, 5), (.quiet, 6), (.quiet, 7), (.quiet, 8), (.loud, 9), (.quiet, 10), (.quiet, 11), (.quiet, 12), (.quiet, 13), (.loud, 14), (.quiet, 15), (.quiet, 16), (.quiet, 17), (.quiet, 18), (.quiet, 19), (.quiet, 20), (.loud, 21), (.quiet, 22), (.quiet, 23), (.quiet, 24), (.quiet, 25), (.loud, 26), (.loud, 27), (.quiet, 28), (.quiet, 29), (.quiet, 30), (.quiet, 31), (.quiet, 32), (.quiet, 33), (.quiet, 34), (.quiet, 35), (.quiet, 36), (.quiet, 37), (.quiet, 38), (.loud, 39), (.quiet, 40), (.quiet, 41)] PP_mixed (by kernel_rfl) (by kernel_rfl) ?_
      repeat' (refine zap rfl ?_; first | refine zbc rfl rfl rfl ?_ | refine zad rfl he1 rfl ?_ | refine zad rfl he2 rfl ?_ | refine zad rfl hk1 rfl ?_ | refine zad rfl hk2 rfl ?_ | refine zad rfl hv1 rfl ?_ | refine zad rfl hv2 rfl ?_ | refine reg_lookup_at haw rfl rfl (valW_look kna _ _ rfl) ?_ | refine reg_lookup_at hwb rfl rfl (valW_look kn _ _ rfl) ?_ | (refine reg_fieldV rfl rfl ?_; first | rw [va16] | rw [vb16] | rw [va23] | rw [vb23]) | refine zaj rfl ?_ | refine zan rfl ?_ | refine zan rfl ?_ | refine zah [] hE1 rfl rfl rfl (fun _ h => h) rfl ?_ | refine zah [] hE2 rfl rfl rfl (fun _ h => h) rfl ?_ | (refine zai [] hBa rfl rfl rfl (fun p hp => by rw [List.mem_singleton.1 hp]; exact haw) ?_; rintro v' Γ' ⟨ra, rc, rfl, rfl⟩) | (refine zai [] hBb rfl rfl rfl (fun p hp => by rw [List.mem_singleton.1 hp]; exact hwb) ?_; rintro v' Γ' ⟨ra2, rc2, rfl, rfl⟩) | (refine zai [1, 0] (hEI _ _ _ _) rfl rfl rfl (fun _ h => h) ?_; rintro v' Γ' rfl) | refine zah [] hA rfl rfl rfl sub_nil rfl ?_ | refine zce rfl ?_ | refine zbu rfl ?_)
      refine zch ?_
      repeat (first | refine zck ?_ | refine zcl ?_ | refine zcm ?_ | refine zcn ?_ | refine zco ?_)
      exact run_ret (leaves_nil (ends_take [] rfl (ends_one rfl rfl ⟨rfl, rfl, rfl⟩)))
end Go.Proofs.YtloekplbhknepaaGreat

