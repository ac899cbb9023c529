import Derived.Test.YtloekplbhknepaaGreatRows
import Derived.OpenShut
import Derived.Handed
import Derived.JoinedOf
import Derived.Test.YtloekplbhknepaaGreatPart4
import Derived.Test.YtloekplbhknepaaGreatPart1
import Derived.Test.YtloekplbhknepaaGreatPart2
import Derived.Test.YtloekplbhknepaaGreatKit
/- Lemmas and walks for the claims of this seat (own work): Dn0 Dn1 Tk0 Tk1 Tk2 Tk3 Tk4 Tk5 Tk6 Td0 Tk7 Tk8 Tb0 Tb1 Tb2 Sh0 Sh1 Sh2 Sh3. -/
namespace Sim
open Go Go.Vc
structure WOk (T : Int) (kn : List (Int × Wd)) : Prop where
  nd : (kn.map (·.1)).Nodup
  wd : ∀ a w, lookW kn a = some w → w.ref = 0 ∧ 0 ≤ w.ver ∧ w.ver ≤ T ∧ 0 ≤ a ∧ a < 4096
theorem keys_look : ∀ (kn : List (Int × Wd)), (kn.map (·.1)).Nodup → ∀ (q : Nat) a w, kn[q]? = some (a, w) → lookW kn a = some w
  | [], _, q, a, w, h => by simp at h
  | (b, u) :: r, hn, 0, a, w, h => by simp at h; obtain ⟨rfl, rfl⟩ := h; simp [lookW]
  | (b, u) :: r, hn, q + 1, a, w, h => by
    rw [List.map_cons, List.nodup_cons] at hn
    have h : r[q]? = some (a, w) := by simpa using h
    have ih := keys_look r hn.2 q a w h
    have hne : b ≠ a := fun e => hn.1 (e ▸ List.mem_map.2 ⟨(a, w), List.mem_of_getElem? h, rfl⟩)
    simp [lookW, hne, ih]
theorem look_none : ∀ (kn : List (Int × Wd)) (a : Int), lookW kn a = none ↔ a ∉ kn.map (·.1)
  | [], a => by simp [lookW]
  | (b, u) :: r, a => by
    simp only [lookW, List.map_cons, List.mem_cons, not_or]
    by_cases h : b = a
    · subst h; simp
    · rw [if_neg h, look_none r a]
      exact ⟨fun h2 => ⟨fun e => h e.symm, h2⟩, fun h2 => h2.2⟩
theorem insW_keys : ∀ (kn : List (Int × Wd)) (a : Int) (w : Wd), (kn.map (·.1)).Nodup → ((insW kn a w).map (·.1)).Nodup
  | [], a, w, _ => by simp [insW]
  | (b, u) :: r, a, w, h => by
    rw [List.map_cons, List.nodup_cons] at h
    simp only [insW]
    by_cases e : b = a
    · rw [if_pos e, List.map_cons, List.nodup_cons]; exact h
    · rw [if_neg e, List.map_cons, List.nodup_cons]
      refine ⟨fun hm => ?_, insW_keys r a w h.2⟩
      by_cases hb : lookW r b = none
      · have h2 := look_insW r a b w
        rw [if_neg (fun e2 => e e2.symm), hb] at h2
        exact (look_none _ _).1 h2 hm
      · exact hb ((look_none _ _).2 h.1)
def nextW (kn : List (Int × Wd)) (s : Sp) (a : Int) : Option Wd := (lookW kn a).map fun w => if (s.value a).2 = true then ⟨(s.value a).1, w.ver + 1, 0⟩ else w
theorem lastV_some : ∀ (l : List (Int × Int)) (a : Int), lastV l a ≠ none → ∃ p ∈ l, p.1 = a
  | [], a, h => absurd rfl h
  | (b, v) :: l, a, h => by
    simp only [lastV] at h
    by_cases h2 : lastV l a = none
    · rw [h2] at h
      by_cases e : b = a
      · exact ⟨(b, v), by simp, e⟩
      · simp [e] at h
    · obtain ⟨p, hp, h3⟩ := lastV_some l a h2
      exact ⟨p, by simp [hp], h3⟩
theorem value_put {s : Sp} {a : Int} (h : (s.value a).2 = true) : ∃ p ∈ s.puts, p.1 = a := by
  refine lastV_some s.puts a fun e => ?_
  simp only [Sp.value, e] at h
  cases h
theorem value_wr {s : Sp} {p : Int × Int} (h : p ∈ s.puts) : (s.value p.1).2 = true := by
  cases hl : lastV s.puts p.1 with
  | some v => simp only [Sp.value, hl]
  | none =>
    exfalso
    have key : ∀ l : List (Int × Int), p ∈ l → lastV l p.1 ≠ none := by
      intro l
      induction l with
      | nil => intro h; cases h
      | cons q l ih =>
        intro h
        obtain ⟨b, v⟩ := q
        simp only [lastV]
        cases h2 : lastV l p.1 with
        | some u => simp
        | none =>
          rcases List.mem_cons.1 h with h3 | h3
          · subst h3; simp
          · exact absurd h2 (ih h3)
    exact key _ h hl
theorem value_not {s : Sp} {a : Int} (h : (s.value a).2 = false) : (s.value a).1 = match lookW s.kn a with | some w => w.val | none => 0 := by
  simp only [Sp.value] at h ⊢
  cases hl : lastV s.puts a with
  | some v => rw [hl] at h; cases h
  | none => rfl
theorem nextW_ok {T : Int} {kn : List (Int × Wd)} {s : Sp} {kn2 : List (Int × Wd)} (h : WOk T kn) (hk : (kn2.map (·.1)).Nodup) (h2 : ∀ a, lookW kn2 a = nextW kn s a) : WOk (T + 1) kn2 := by
  refine ⟨hk, fun a w hw => ?_⟩
  rw [h2, nextW] at hw
  cases h3 : lookW kn a with
  | none => rw [h3] at hw; cases hw
  | some u =>
    rw [h3] at hw
    obtain ⟨g1, g2, g3, g4, g5⟩ := h.wd a u h3
    have := (Option.some.inj hw).symm
    subst this
    split
    · exact ⟨rfl, by dsimp only; omega, by dsimp only; omega, g4, g5⟩
    · exact ⟨g1, g2, Int.le_trans g3 (by omega), g4, g5⟩
def partW (kn : List (Int × Wd)) (s : Sp) (l : List Int) (a : Int) : Option Wd := if a ∈ l then nextW kn s a else lookW kn a
theorem partW_nil (kn : List (Int × Wd)) (s : Sp) (a : Int) : partW kn s [] a = lookW kn a := by simp [partW]
theorem partW_snoc (kn : List (Int × Wd)) (s : Sp) (l : List Int) (x a : Int) : partW kn s (l ++ [x]) a = if x = a then nextW kn s a else partW kn s l a := by
  unfold partW
  by_cases h : x = a
  · subst h; simp
  · have : a ∈ l ++ [x] ↔ a ∈ l := by simp [Ne.symm h]
    simp [h, this]
theorem partW_all {kn : List (Int × Wd)} {s : Sp} {l : List Int} (h : ∀ p ∈ s.puts, p.1 ∈ l) (a : Int) : partW kn s l a = nextW kn s a := by
  unfold partW
  by_cases hm : a ∈ l
  · rw [if_pos hm]
  · rw [if_neg hm]
    have : (s.value a).2 = false := by
      cases hv : (s.value a).2 with
      | false => rfl
      | true =>
        obtain ⟨p, hp, e⟩ := value_put hv
        exact absurd (e ▸ h p hp) hm
    unfold nextW
    rw [this]
    cases lookW kn a <;> rfl
end Sim
namespace Go.Proofs.YtloekplbhknepaaGreat
open Go.Vc Sim
theorem idx_none : ∀ (l : List En) (x k : Int), (∀ e ∈ l, e.loc ≠ x) → idxI x l k = -1
  | [], x, k, _ => rfl
  | e :: l, x, k, h => by
    simp only [idxI]
    rw [if_neg (h e (by simp))]
    exact idx_none l x (k + 1) (fun e he => h e (by simp [he]))
theorem chk_ok (es : List En) (h1 : ∀ e ∈ es, wrongI e = 0) (h2 : (es.map (·.loc)).Nodup) : ∀ (l : List En) (i : Nat), es.drop i = l → chkI es l i = 0
  | [], _, _ => rfl
  | e :: l, i, h => by
    have hi : i < es.length := by
      by_cases hi : i < es.length
      · exact hi
      · rw [List.drop_of_length_le (by omega)] at h; cases h
    have he : es[i]? = some e := by
      have := List.drop_eq_getElem_cons hi
      rw [h] at this
      rw [List.getElem?_eq_getElem hi]
      exact congrArg some (List.cons.inj this).1.symm
    simp only [chkI]
    rw [if_neg (fun hw => hw (h1 e (List.mem_of_getElem? he)))]
    have hno : idxI e.loc (es.take i) 0 = -1 := by
      refine idx_none _ _ _ fun e' he' hloc => ?_
      obtain ⟨j, hj⟩ := List.mem_iff_getElem?.1 he'
      have hji : j < i := by
        have := (List.getElem?_eq_some_iff.1 hj).1
        simp at this; omega
      rw [List.getElem?_take_of_lt hji] at hj
      have hm1 : (es.map (·.loc))[j]? = some e.loc := by simp [hj, hloc]
      have hm2 : (es.map (·.loc))[i]? = some e.loc := by simp [he]
      have := (List.getElem?_inj (by simp; omega) h2).1 (hm1.trans hm2.symm)
      omega
    rw [hno, if_neg (by decide)]
    refine chk_ok es h1 h2 l (i + 1) ?_
    rw [List.drop_eq_getElem_cons hi] at h
    exact (List.cons.inj h).2
theorem check_ok {T : Int} {kn : List (Int × Wd)} {s : Sp} (hT : T ≤ 1000000) (hw : WOk T kn) (hs : Wf s) (hk : ∀ a, lookW s.kn a = lookW kn a) (hne : (esOf s).length ≠ 0) : checkI (esOf s) = 0 ∨ checkI (esOf s) = 15 := by
  unfold checkI
  rw [if_neg hne]
  by_cases h : 32 < (esOf s).length
  · rw [if_pos h]; exact .inr rfl
  · rw [if_neg h]
    left
    have hmem : ∀ e ∈ esOf s, ∃ x ∈ s.rd, e = entE s x := fun e he => by
      unfold esOf at he
      obtain ⟨x, hx, rfl⟩ := List.mem_map.1 he
      exact ⟨x, List.mem_mergeSort.1 hx, rfl⟩
    refine chk_ok _ (fun e he => ?_) ?_ _ 0 rfl
    · obtain ⟨x, hx, rfl⟩ := hmem e he
      have h2 := hs.rk x hx
      obtain ⟨w, hlw⟩ : ∃ w, lookW s.kn x = some w := by
        cases h3 : lookW s.kn x with
        | none => exact absurd h3 h2
        | some w => exact ⟨w, rfl⟩
      obtain ⟨g1, g2, g3, g4, g5⟩ := hw.wd x w (by rw [← hk]; exact hlw)
      have ho : oldW s x = w := by unfold oldW; rw [hlw]
      unfold wrongI entE
      dsimp only
      rw [ho]
      rw [if_neg (by omega), if_neg (by rintro ⟨_, h4⟩; omega)]
      rw [if_neg]
      rintro ⟨h4, h5⟩
      have := value_not h4
      rw [hlw] at this
      exact h5 this
    · have : (esOf s).map (·.loc) = s.rd.mergeSort leI := by
        unfold esOf
        rw [List.map_map]
        exact List.map_id _
      rw [this]
      exact (List.mergeSort_perm s.rd leI).nodup_iff.2 hs.nd
theorem entries_cases {T : Int} {kn : List (Int × Wd)} {s : Sp} (hT : T ≤ 1000000) (hw : WOk T kn) (hs : Wf s) (hl : s.ended = false) (hk : ∀ a, lookW s.kn a = lookW kn a) :
    (Sp.entries s = (esOf s, 0)) ∨ (Sp.entries s = ([], 15)) := by
  unfold Sp.entries
  rw [if_neg (by rw [hl]; decide)]
  by_cases h0 : (esOf s).length = 0
  · rw [if_pos h0]
    left
    rw [List.length_eq_zero_iff.1 h0]
  · rw [if_neg h0]
    rcases check_ok hT hw hs hk h0 with h | h
    · rw [if_neg (fun h2 => h2 h)]; exact .inl rfl
    · rw [if_pos (by rw [h]; decide), h]; exact .inr rfl
end Go.Proofs.YtloekplbhknepaaGreat

namespace Sim
open Go Go.Vc
theorem nodup_bd : ∀ (n : Nat) (l : List Int), l.Nodup → (∀ x ∈ l, 0 ≤ x ∧ x < n) → l.length ≤ n
  | 0, l, _, h => by
    cases l with
    | nil => exact Nat.le_refl _
    | cons a l => have := h a (by simp); omega
  | n + 1, l, hn, h => by
    by_cases hm : (n : Int) ∈ l
    · have h1 := nodup_bd n (l.erase n) (hn.erase _) (fun x hx => by
        have h2 := h x (List.mem_of_mem_erase hx)
        have h3 : x ≠ n := fun e => by subst e; exact (List.Nodup.not_mem_erase hn) hx
        omega)
      have h2 := List.length_erase_of_mem hm
      omega
    · have := nodup_bd n l hn (fun x hx => by
        have h2 := h x hx
        have h3 : x ≠ n := fun e => hm (e ▸ hx)
        omega)
      omega
end Sim
namespace Go.Proofs.YtloekplbhknepaaGreat
open Go.Vc Sim
set_option maxHeartbeats 8000000
theorem wrap_u32 {m : Int} (h0 : 0 ≤ m) (h1 : m ≤ 4294967295) : IntKind.u32.wrap m = m := by
  simp only [IntKind.wrap, IntKind.bits, IntKind.signed]
  simp
  omega
theorem get_live {s : Sp} {x : Int} {w : Wd} (hl : s.ended = false) (hk : lookW s.kn x = some w) : s.get x = ((s.value x).1, { s with rd := insI s.rd x }) := by
  have : s.reads x = (true, { s with rd := insI s.rd x }) := by simp [Sp.reads, hl, hk]
  simp only [Sp.get, this, if_true]
  rfl
structure Left (s s' : Sp) : Prop where
  live : s'.ended = false
  wf : Wf s'
  kn : s'.kn = s.kn
  few : s'.puts.length < 60000
theorem done_spec {σ : Type} (w0 : World) (shc : Shared) (wb : Nat) (kn : List (Int × Wd)) (T : Int) (hT : T ≤ 1000000) (hw : WOk T kn) (f : FuncId) (cap : Array Value) (A : Asn) (A' : σ → Asn) (ψ : σ → Sp → Prop)
    (hdo : ∀ p s, s.puts = [] → s.rd = [] → s.ended = false → (∀ a, lookW s.kn a = lookW kn a) →
      Vc.Fn PP w0 shc f (spP p :: cap.toList) [SpaceA p s, A] (fun v Γ => ∃ st s', v = .tuple #[] ∧ Γ = [SpaceA p s', A' st] ∧ Left s s' ∧ ψ st s')) :
    Vc.Fn PP w0 ((wb, mapI (knM kn)) :: shc) 19 [.map (some wb), .func (.func f) #[] cap] [A]
      (fun v Γ => ∃ st s' nb a len c kn2, v = .tuple #[.map (some nb), .slice a len c, .bool true] ∧ Γ = [pt nb (mapI (knM kn2)), A' st] ∧ ψ st s' ∧ WOk (T + 1) kn2 ∧ ∀ a, lookW kn2 a = nextW kn s' a) := by
  refine fn_of_run en19 fn19 rfl rfl rfl ?_
  repeat (first | refine zck ?_ | refine zcl ?_ | refine zcm ?_ | refine zcn ?_)
  first | refine zcp (by kernel_rfl) ?_ | refine zcr [(.quiet, 0), (.quiet, 1), (.quiet, 2), (.quiet, 3), (.loud, 4), (.quiet, 5), (.quiet, 6), (.loud, 7), (.quiet, 8), (.quiet, 9), (.quiet, 10), (.loud, 11)] PP_mixed (by kernel_rfl) (by kernel_rfl) ?_ | refine zcq PP_mixed (by kernel_rfl) (by kernel_rfl) ?_
  repeat' (refine zap rfl ?_; first | refine zan rfl ?_)
  all_goals refine zch ?_
  all_goals repeat (first | refine zck ?_ | refine zcl ?_ | refine zcm ?_ | refine zcn ?_)
  have hN := new_sh w0 wb kn (fun q a w h => ⟨keys_look kn hw.nd q a w h, (hw.wd a w (keys_look kn hw.nd q a w h)).1⟩)
  repeat (first | refine zck ?_ | refine zcl ?_ | refine zcm ?_ | refine zcn ?_)
  first | refine zcp (by kernel_rfl) ?_ | refine zcr [(.quiet, 0), (.quiet, 1), (.quiet, 2), (.quiet, 3), (.loud, 4), (.quiet, 5), (.quiet, 6), (.loud, 7), (.quiet, 8), (.quiet, 9), (.quiet, 10), (.loud, 11)] PP_mixed (by kernel_rfl) (by kernel_rfl) ?_ | refine zcq PP_mixed (by kernel_rfl) (by kernel_rfl) ?_
  repeat' (refine zap rfl ?_; first | (refine zai [] hN rfl rfl rfl (fun q hq => by simp only [List.mem_singleton] at hq; subst hq; exact .head _) ?_; rintro v Γ' ⟨p, kn', rfl, rfl, hkn'⟩) | refine zan rfl ?_ | refine zan rfl ?_)
  all_goals refine zch ?_
  all_goals repeat (first | refine zck ?_ | refine zcl ?_ | refine zcm ?_ | refine zcn ?_)
  repeat (first | refine zck ?_ | refine zcl ?_ | refine zcm ?_ | refine zcn ?_)
  first | refine zcp (by kernel_rfl) ?_ | refine zcr [(.quiet, 0), (.quiet, 1), (.quiet, 2), (.quiet, 3), (.loud, 4), (.quiet, 5), (.quiet, 6), (.loud, 7), (.quiet, 8), (.quiet, 9), (.quiet, 10), (.loud, 11)] PP_mixed (by kernel_rfl) (by kernel_rfl) ?_ | refine zcq PP_mixed (by kernel_rfl) (by kernel_rfl) ?_
  repeat' (refine zap rfl ?_; first | (refine zai [0, 0] (hdo p ⟨kn', [], [], 0, false⟩ rfl rfl rfl hkn') rfl rfl rfl (fun q hq => .tail _ hq) ?_; rintro v Γ' ⟨st, s, rfl, rfl, hL, hψ⟩) | refine zan rfl ?_)
  all_goals refine zch ?_
  all_goals repeat (first | refine zck ?_ | refine zcl ?_ | refine zcm ?_ | refine zcn ?_)
  have hks : ∀ a, lookW s.kn a = lookW kn a := fun a => by rw [hL.kn]; exact hkn' a
  have hrd : s.rd.length ≤ 4096 := nodup_bd 4096 s.rd hL.wf.nd (fun x hx => by
    cases h : lookW kn x with
    | none => exact absurd ((hks x).trans h) (hL.wf.rk x hx)
    | some w => have := hw.wd x w h; omega)
  have hfew := hL.few
  have hE := ents_spec w0 p s (by omega) (by omega) (fun x w h => (hw.wd x w ((hks x).symm.trans h)).1)
  have hcs := entries_cases hT hw hL.wf hL.live hks
  have hes : (Sp.entries s).1.length ≤ 4096 := by
    rcases hcs with h | h <;> rw [h]
    · show (esOf s).length ≤ 4096
      rw [esOf, List.length_map, List.length_mergeSort]; exact hrd
    · exact Nat.zero_le _
  repeat (first | refine zck ?_ | refine zcl ?_ | refine zcm ?_ | refine zcn ?_)
  first | refine zcp (by kernel_rfl) ?_ | refine zcr [(.quiet, 0), (.quiet, 1), (.quiet, 2), (.quiet, 3), (.loud, 4), (.quiet, 5), (.quiet, 6), (.loud, 7), (.quiet, 8), (.quiet, 9), (.quiet, 10), (.loud, 11)] PP_mixed (by kernel_rfl) (by kernel_rfl) ?_ | refine zcq PP_mixed (by kernel_rfl) (by kernel_rfl) ?_
  repeat' (refine zap rfl ?_; first | (refine zai [0] hE rfl rfl rfl sub_nil ?_; rintro v Γ' ⟨ea, ecap, rfl, rfl⟩) | refine zan rfl ?_ | refine zan rfl ?_ | refine zan rfl ?_)
  all_goals refine zch ?_
  all_goals repeat (first | refine zck ?_ | refine zcl ?_ | refine zcm ?_ | refine zcn ?_)
  repeat (first | refine zck ?_ | refine zcl ?_ | refine zcm ?_ | refine zcn ?_)
  first | refine zcp (by kernel_rfl) ?_ | refine zcr [(.quiet, 0), (.quiet, 1), (.quiet, 2), (.quiet, 3), (.loud, 4), (.quiet, 5), (.quiet, 6), (.loud, 7), (.quiet, 8), (.quiet, 9), (.quiet, 10), (.loud, 11)] PP_mixed (by kernel_rfl) (by kernel_rfl) ?_ | refine zcq PP_mixed (by kernel_rfl) (by kernel_rfl) ?_
  repeat' (refine zap rfl ?_; first | refine zan rfl ?_ | refine zcc (fun nb => ?_))
  all_goals refine zch ?_
  all_goals repeat (first | refine zck ?_ | refine zcl ?_ | refine zcm ?_ | refine zcn ?_)
  revert nb; intro nx
  repeat (first | refine zck ?_ | refine zcl ?_ | refine zcm ?_ | refine zcn ?_)
  first | refine zcp (by kernel_rfl) ?_ | refine zcr [(.quiet, 0), (.quiet, 1), (.quiet, 2), (.quiet, 3), (.loud, 4), (.quiet, 5), (.quiet, 6), (.loud, 7), (.quiet, 8), (.quiet, 9), (.quiet, 10), (.loud, 11)] PP_mixed (by kernel_rfl) (by kernel_rfl) ?_ | refine zcq PP_mixed (by kernel_rfl) (by kernel_rfl) ?_
  repeat' (refine zap rfl ?_; first | refine reg_rangeK rfl (sh_know 0 rfl) (fun nb => ?_) | refine zan rfl ?_)
  all_goals refine zch ?_
  all_goals repeat (refine zck ?_)
  revert nb; intro it
  have hel : ∀ (i : Nat) x, (Sp.entries s).1[i]? = some x → ∃ y, y ∈ s.rd ∧ x = entE s y ∧ (s.rd.mergeSort leI)[i]? = some y := fun i x hx => by
    rcases hcs with h | h <;> rw [h] at hx
    · dsimp only at hx
      rw [esOf, List.getElem?_map] at hx
      cases hy : (s.rd.mergeSort leI)[i]? with
      | none => rw [hy] at hx; cases hx
      | some y => rw [hy] at hx; exact ⟨y, List.mem_mergeSort.1 (List.mem_of_getElem? hy), (Option.some.inj hx).symm, rfl⟩
    · simp at hx
  have hfin : ((Sp.entries s).2 = 0 ∧ (Sp.entries s).1.length = s.rd.length) ∨ ((Sp.entries s).2 = 15 ∧ (Sp.entries s).1.length = 0) := by
    rcases hcs with h | h <;> rw [h]
    · exact .inl ⟨rfl, by rw [esOf, List.length_map, List.length_mergeSort]⟩
    · exact .inr ⟨rfl, rfl⟩
  clear hE hcs
  generalize hes0 : (Sp.entries s).1 = es at *
  generalize (Sp.entries s).2 = f at *
  refine run_bind_eq2 (σ := { kn2 : List (Int × Wd) // (kn2.map (·.1)).Nodup ∧ ∀ a, lookW kn2 a = lookW kn a })
    (l' := fun _ => [(0, .map (some wb)), (7, spP p), (8, .slice ea es.length ecap), (9, .int .i64 f), (10, .map (some nx))]) (Γ' := fun kn2 => [SpaceA p s, EnA ea ecap es, A' st, pt nx (mapI (knM kn2.1))]) ?_ ?_
  · refine zcl ?_
    refine run_loop (S := List (Int × Wd) × List Nat) (fun _ => [(0, .map (some wb)), (7, spP p), (8, .slice ea es.length ecap), (9, .int .i64 f), (10, .map (some nx)), (31, .pointer (some ⟨it, 0, none⟩))])
      (fun st' Γ => Γ = [SpaceA p s, EnA ea ecap es, A' st, pt nx (mapI (knM st'.1)), pt it (iterI wb (knM kn).length st'.2 (knM kn).length)] ∧ (∀ q ∈ st'.2, ∀ a w, kn[q]? = some (a, w) → lookW st'.1 a = some w) ∧ (∀ a w, lookW st'.1 a = some w → lookW kn a = some w) ∧ (st'.1.map (·.1)).Nodup)
      (fun st' => cnt kn.length st'.2) ([], []) ⟨rfl, rfl, rfl, rfl, rfl, rfl, trivial⟩ ⟨rfl, by simp, by simp [lookW], by simp⟩ ?_
    rintro ⟨kn2, seen⟩ Γ junk ⟨rfl, h1, h2, h3⟩
    dsimp only at h1 h2 h3 ⊢
    repeat (first | refine zck ?_ | refine zcl ?_ | refine zcm ?_ | refine zcn ?_ | refine zco ?_)
    refine zcp (by kernel_rfl) ?_
    refine zap rfl ?_
    refine reg_next 4 0 rfl rfl (sh_know 0 rfl) rfl (fun _ => rfl) (fun hall => ?_) (fun q e hq hns => ?_)
    · repeat' (first | refine zck ?_ | (refine zap rfl ?_; first | refine zan rfl ?_) | refine zch ?_ | refine zcj rfl ?_)
      refine cut_exit rfl rfl ?_
      refine run_take [0, 0, 0, 0] rfl ?_
      refine cut_end ⟨rfl, ⟨kn2, h3, fun a => ?_⟩, ⟨rfl, rfl, rfl, rfl, rfl, trivial⟩, rfl⟩
      cases hk : lookW kn a with
      | none =>
        cases hk' : lookW kn2 a with
        | none => rfl
        | some w => have := h2 a w hk'; rw [hk] at this; cases this
      | some w =>
        obtain ⟨q, hq⟩ := lookW_mem kn a w hk
        have hql := (List.getElem?_eq_some_iff.1 hq).1
        exact h1 q (hall q (by rw [knM_length]; exact hql)) a w hq
    · rw [knM_get] at hq
      obtain ⟨⟨a, w⟩, hq2, rfl⟩ : ∃ aw, kn[q]? = some aw ∧ e = (aw.1, wordV aw.2) := by
        cases h : kn[q]? with
        | none => rw [h] at hq; cases hq
        | some aw => rw [h] at hq; exact ⟨aw, rfl, (Option.some.inj hq).symm⟩
      have hk1 := keys_look kn hw.nd q a w hq2
      have hql := (List.getElem?_eq_some_iff.1 hq2).1
      have hq3 : (knM kn)[q]? = some (a, wordV w) := by rw [knM_get, hq2]; rfl
      repeat' (refine zap rfl ?_; first | refine zan rfl ?_)
      refine zch ?_
      repeat (first | refine zck ?_ | refine zcl ?_ | refine zcm ?_ | refine zcn ?_ | refine zco ?_)
      refine zci rfl ?_
      repeat (first | refine zck ?_ | refine zcl ?_ | refine zcm ?_ | refine zcn ?_ | refine zco ?_)
      repeat (first | refine zck ?_ | refine zcl ?_ | refine zcm ?_ | refine zcn ?_)
      first | refine zcp (by kernel_rfl) ?_ | refine zcr [(.quiet, 0), (.quiet, 1), (.quiet, 2), (.quiet, 3), (.loud, 4), (.quiet, 5), (.quiet, 6), (.loud, 7), (.quiet, 8), (.quiet, 9), (.quiet, 10), (.loud, 11)] PP_mixed (by kernel_rfl) (by kernel_rfl) ?_ | refine zcq PP_mixed (by kernel_rfl) (by kernel_rfl) ?_
      repeat' (refine zap rfl ?_; first | refine reg_entry 4 rfl rfl (sh_know 0 rfl) hq3 ?_ | refine zan rfl ?_ | refine zan rfl ?_ | refine zae 5 rfl rfl rfl rfl rfl rfl rfl ?_ | refine zar (fun nb => ?_))
      all_goals refine zch ?_
      all_goals repeat (first | refine zck ?_ | refine zcl ?_ | refine zcm ?_ | refine zcn ?_)
      refine run_share [5] rfl ?_
      repeat' (first | refine zcp (by kernel_rfl) ?_ | refine zcn ?_ | (refine zap rfl ?_; first | refine reg_mapUpdate 3 rfl rfl rfl rfl rfl ?_ | refine zan rfl ?_ | refine zaa 0 rfl rfl rfl ?_) | refine zch ?_)
      refine cut_end ⟨rfl, (insW kn2 a w, seen ++ [q]), ⟨rfl, rfl, rfl, rfl, rfl, rfl, trivial⟩, ⟨?_, ?_, ?_, insW_keys _ _ _ h3⟩, ?_⟩
      · show _ = [_, _, _, pt nx (mapI (knM (insW kn2 a w))), _]
        rw [← ins_knM]; rfl
      · intro q' hq' a' w' h
        rw [look_insW]
        rcases List.mem_append.1 hq' with hq' | hq'
        · have := h1 q' hq' a' w' h
          by_cases e : a = a'
          · subst e; rw [if_pos rfl]
            have := keys_look kn hw.nd q' a w' h
            rw [hk1] at this; exact this
          · rw [if_neg e]; exact this
        · simp at hq'; subst hq'
          rw [hq2] at h; cases h; rw [if_pos rfl]
      · intro a' w' h
        rw [look_insW] at h
        by_cases e : a = a'
        · subst e; rw [if_pos rfl] at h; cases h; exact hk1
        · rw [if_neg e] at h; exact h2 a' w' h
      · have := (cnt_more q seen hns kn.length).2 hql
        dsimp only; omega
  rintro ⟨kn2, hn2, hk2⟩ junk
  dsimp only
  repeat (first | refine zck ?_ | refine zcl ?_ | refine zcm ?_ | refine zcn ?_)
  first | refine zcp (by kernel_rfl) ?_ | refine zcr [(.quiet, 0), (.quiet, 1), (.quiet, 2), (.quiet, 3), (.loud, 4), (.quiet, 5), (.quiet, 6), (.loud, 7), (.quiet, 8), (.quiet, 9), (.quiet, 10), (.loud, 11)] PP_mixed (by kernel_rfl) (by kernel_rfl) ?_ | refine zcq PP_mixed (by kernel_rfl) (by kernel_rfl) ?_
  repeat' (refine zap rfl ?_; first | refine zan rfl ?_ | refine zce rfl ?_)
  all_goals refine zch ?_
  all_goals repeat (refine zck ?_)
  refine run_bind_eq2 (σ := { kn3 : List (Int × Wd) // (kn3.map (·.1)).Nodup ∧ ∀ a, lookW kn3 a = partW kn s ((s.rd.mergeSort leI).take es.length) a })
    (l' := fun _ => [(0, .map (some wb)), (7, spP p), (8, .slice ea es.length ecap), (9, .int .i64 f), (10, .map (some nx))]) (Γ' := fun kn3 => [SpaceA p s, A' st, pt nx (mapI (knM kn3.1))]) ?_ ?_
  · refine zcl ?_
    refine run_loop (S := Nat × List (Int × Wd)) (fun st' => [(0, .map (some wb)), (7, spP p), (8, .slice ea es.length ecap), (9, .int .i64 f), (10, .map (some nx)), (40, .slice ea es.length ecap), (41, .int .i64 (es.length : Int)), (42, .int .i64 (st'.1 : Int))])
      (fun st' Γ => Γ = [SpaceA p s, EnA ea ecap es, A' st, pt nx (mapI (knM st'.2))] ∧ st'.1 ≤ es.length ∧ (st'.2.map (·.1)).Nodup ∧ ∀ a, lookW st'.2 a = partW kn s ((s.rd.mergeSort leI).take st'.1) a)
      (fun st' => es.length - st'.1) (0, kn2) ⟨rfl, rfl, rfl, rfl, rfl, rfl, rfl, rfl, trivial⟩ ⟨rfl, Nat.zero_le _, hn2, fun a => by rw [List.take_zero, partW_nil]; exact hk2 a⟩ ?_
    rintro ⟨j, kn3⟩ Γ junk ⟨rfl, h1, h2, h3⟩
    dsimp only at h1 h2 h3 ⊢
    by_cases hj : j < es.length
    · obtain ⟨x, hx⟩ : ∃ x, es[j]? = some x := ⟨_, List.getElem?_eq_getElem hj⟩
      obtain ⟨y, hy1, rfl, hy2⟩ := hel j x hx
      obtain ⟨wy, hwy⟩ : ∃ w, lookW kn y = some w := by
        cases h : lookW kn y with
        | none => exact absurd ((hks y).trans h) (hL.wf.rk y hy1)
        | some w => exact ⟨w, rfl⟩
      obtain ⟨v1, v2, v3, v4, v5⟩ := hw.wd y wy hwy
      have hold : oldW s y = wy := by unfold oldW; rw [hks, hwy]
      obtain ⟨w3, hw3⟩ : ∃ w3, lookW kn3 y = some w3 := by
        rw [h3]; unfold partW nextW
        split
        · rw [hwy]; exact ⟨_, rfl⟩
        · exact ⟨wy, hwy⟩
      have hl3 : Vc.look (knM kn3) y = some (wordV w3) := by rw [look_knM, hw3]; rfl
      have hlk : (Vc.look (knM kn) y).getD (.agg #[.int .i64 0, .int .u32 0, .int .u32 0]) = .agg #[.int .i64 wy.val, .int .u32 wy.ver, .int .u32 wy.ref] := by rw [look_knM, hwy]; rfl
      have hr : ∀ o, o = j * 6 → rd true 6 (flatE es) o = some (.agg (List.toArray [.int .i64 y, .int .i64 wy.val, .int .u32 wy.ver, .int .u32 wy.ref, .int .i64 (s.value y).1, .bool (s.value y).2])) := fun o ho => by
        rw [← hold]; exact flatE_rd hx o ho
      have ht : (s.rd.mergeSort leI).take (j + 1) = (s.rd.mergeSort leI).take j ++ [y] := by rw [List.take_add_one, hy2]; rfl
      have hwr : IntKind.u32.wrap (wy.ver + 1) = wy.ver + 1 := wrap_u32 (by omega) (by omega)
      refine run_sl_cases 1 rfl (fun _ h _ _ => absurd h (by omega)) ?_
      intro bb k1 k2 k3
      subst k1
      repeat' (first | refine zck ?_ | refine zcp (by kernel_rfl) ?_ | refine zcm ?_ | refine zcl ?_ | (refine zap rfl ?_; first | refine zag 1 rfl rfl (hr _ (by omega)) (by intro h; decide) ?_ | refine reg_lookupOk 3 rfl rfl rfl hl3 ?_ | refine reg_lookup_sh 0 rfl rfl rfl hlk ?_ | refine reg_ne_word rfl rfl ⟨rfl, rfl, rfl⟩ ?_ | refine zaj rfl ?_ | refine zan rfl ?_ | refine zan rfl ?_ | refine zab 4 rfl rfl rfl ?_ | refine zao rfl ?_ | refine zan rfl ?_ | refine zbg rfl rfl (by omega) ?_ | refine zbx rfl ?_ | refine zbv rfl ?_ | refine zae 4 rfl rfl rfl rfl rfl rfl rfl ?_ | refine zae 5 rfl rfl rfl rfl rfl rfl rfl ?_ | refine zas rfl rfl (by omega) ?_ | refine zar (fun nb => ?_)) | refine zch ?_ | refine zci rfl ?_ | refine zcj rfl ?_)
      refine run_condV rfl (fun hE => ?_) (fun hE => ?_)
      · have hE : (s.value y).2 = true := hE
        repeat' (first | refine zcp (by kernel_rfl) ?_ | refine zcn ?_ | (refine zap rfl ?_; first | (refine reg_add (t := 66) rfl rfl ?_; rw [hwr]) | refine reg_mapUpdate 3 rfl rfl rfl rfl rfl ?_ | refine zan rfl ?_ | refine zab 4 rfl rfl rfl ?_ | refine zao rfl ?_ | refine zau rfl rfl (by omega) ?_ | refine zcb rfl ?_) | refine zch ?_)
        refine run_take [0, 0, 0, 0] rfl ?_
        refine cut_end ⟨rfl, (j + 1, insW kn3 y ⟨(s.value y).1, wy.ver + 1, 0⟩), ⟨rfl, rfl, rfl, rfl, rfl, rfl, rfl, int_eq (by dsimp only; omega), trivial⟩, ⟨?_, by dsimp only; omega, insW_keys _ _ _ h2, fun a => ?_⟩, by dsimp only; omega⟩
        · show _ = [_, _, _, pt nx (mapI (knM (insW kn3 y _)))]
          rw [← ins_knM]; rfl
        · dsimp only
          rw [look_insW, ht, partW_snoc, h3]
          by_cases e : y = a
          · subst e
            rw [if_pos rfl, if_pos rfl, nextW, hwy]
            simp [hE]
          · rw [if_neg e, if_neg e]
      · have hE : (s.value y).2 = false := hE
        repeat' (first | refine zcp (by kernel_rfl) ?_ | refine zcm ?_ | refine zcn ?_ | (refine zap rfl ?_; first | refine zan rfl ?_ | refine zau rfl rfl (by omega) ?_) | refine zch ?_)
        refine run_take [0, 0, 0, 0] rfl ?_
        refine cut_end ⟨rfl, (j + 1, kn3), ⟨rfl, rfl, rfl, rfl, rfl, rfl, rfl, int_eq (by dsimp only; omega), trivial⟩, ⟨rfl, by dsimp only; omega, h2, fun a => ?_⟩, by dsimp only; omega⟩
        dsimp only
        rw [ht, partW_snoc, h3]
        by_cases e : y = a
        · subst e
          rw [if_pos rfl]
          have : nextW kn s y = lookW kn y := by rw [nextW, hwy]; simp [hE]
          unfold partW
          split
          · rfl
          · exact this.symm
        · rw [if_neg e]
    · repeat' (first | refine zck ?_ | refine zcp (by kernel_rfl) ?_ | (refine zap rfl ?_; first | refine zbh rfl rfl (by omega) ?_) | refine zch ?_ | refine zcj rfl ?_)
      refine cut_exit rfl rfl ?_
      refine run_take [0, 1, 1] rfl ?_
      have e : j = es.length := by omega
      subst e
      exact cut_end ⟨rfl, ⟨kn3, h2, h3⟩, ⟨rfl, rfl, rfl, rfl, rfl, trivial⟩, rfl⟩
  rintro ⟨kn3, hn3, hk3⟩ junk
  dsimp only
  rcases hfin with ⟨rfl, hlen⟩ | ⟨rfl, hlen⟩
  · have hk4 : ∀ a, lookW kn3 a = nextW kn s a := fun a => by
      rw [hk3, hlen]
      refine partW_all (fun q hq => ?_) a
      rw [List.take_of_length_le (by rw [List.length_mergeSort]; omega), List.mem_mergeSort]
      exact hL.wf.pr q hq
    repeat' (first | refine zck ?_ | refine zcp (by kernel_rfl) ?_ | refine zcm ?_ | (refine zap rfl ?_; first | (refine zbx rfl ?_; rw [hL.live]) | refine zaj rfl ?_ | refine zak rfl ?_ | refine zan rfl ?_ | refine zan rfl ?_ | refine zah [0] (ended_spec w0 p s) rfl rfl rfl sub_nil rfl ?_ | refine zbc rfl rfl (by omega) ?_ | refine zbd rfl rfl (by omega) ?_ | refine zbu rfl ?_) | refine zch ?_ | refine zcj rfl ?_)
    refine run_take [2, 1] rfl ?_
    exact ret_tmp3 rfl ⟨st, s, nx, ea, es.length, ecap, kn3, rfl, rfl, hψ, nextW_ok hw hn3 hk4, hk4⟩
  · have hk5 : ∀ a, lookW kn3 a = lookW kn a := fun a => by rw [hk3, hlen, List.take_zero, partW_nil]
    repeat (first | refine zck ?_ | refine zcl ?_ | refine zcm ?_ | refine zcn ?_)
    first | refine zcp (by kernel_rfl) ?_ | refine zcr [(.quiet, 0), (.quiet, 1), (.quiet, 2), (.quiet, 3), (.loud, 4), (.quiet, 5), (.quiet, 6), (.loud, 7), (.quiet, 8), (.quiet, 9), (.quiet, 10), (.loud, 11)] PP_mixed (by kernel_rfl) (by kernel_rfl) ?_ | refine zcq PP_mixed (by kernel_rfl) (by kernel_rfl) ?_
    repeat' (refine zap rfl ?_; first | refine zan rfl ?_ | refine zbc rfl rfl (by omega) ?_)
    all_goals refine zch ?_
    all_goals repeat (first | refine zck ?_ | refine zcl ?_ | refine zcm ?_ | refine zcn ?_)
    refine run_bind_eq2 (σ := { q : Sp × List (Int × Wd) // q.1.ended = false ∧ (q.2.map (·.1)).Nodup ∧ ∀ a, lookW q.2 a = nextW kn s a })
      (l' := fun _ => [(0, .map (some wb)), (7, spP p), (8, .slice ea es.length ecap), (9, .int .i64 15), (10, .map (some nx))]) (Γ' := fun q => [SpaceA p q.1.1, A' st, pt nx (mapI (knM q.1.2))]) ?_ ?_
    · refine zci rfl ?_
      have hW := writes_spec w0 p s (by omega)
      have hwl : s.writes.length ≤ s.puts.length := by
        have := ddN_le ((s.puts.map (·.1)).mergeSort (fun x y => decide (x ≤ y))) ((s.puts.map (·.1)).mergeSort (fun x y => decide (x ≤ y))).length
        rw [List.length_mergeSort, List.length_map] at this
        unfold Sp.writes
        simp only [List.length_mergeSort, List.length_map]
        exact this
      repeat (first | refine zck ?_ | refine zcl ?_ | refine zcm ?_ | refine zcn ?_)
      first | refine zcp (by kernel_rfl) ?_ | refine zcr [(.quiet, 0), (.quiet, 1), (.quiet, 2), (.quiet, 3), (.loud, 4), (.quiet, 5), (.quiet, 6), (.loud, 7), (.quiet, 8), (.quiet, 9), (.quiet, 10), (.loud, 11)] PP_mixed (by kernel_rfl) (by kernel_rfl) ?_ | refine zcq PP_mixed (by kernel_rfl) (by kernel_rfl) ?_
      repeat' (refine zap rfl ?_; first | (refine zai [0] hW rfl rfl rfl sub_nil ?_; rintro v Γ' ⟨wa, wcap, rfl, rfl⟩) | refine zan rfl ?_ | refine zce rfl ?_)
      all_goals refine zch ?_
      all_goals repeat (refine zck ?_)
      refine zcl ?_
      refine run_loop (S := Nat × Sp × List (Int × Wd)) (fun st' => [(0, .map (some wb)), (7, spP p), (8, .slice ea es.length ecap), (9, .int .i64 15), (10, .map (some nx)), (81, .slice wa s.writes.length wcap), (82, .int .i64 (s.writes.length : Int)), (83, .int .i64 (st'.1 : Int))])
        (fun st' Γ => Γ = [SpaceA p st'.2.1, SlA 28 1 wa s.writes.length wcap (intsV s.writes), A' st, pt nx (mapI (knM st'.2.2))] ∧ st'.1 ≤ s.writes.length ∧ (st'.2.1.ended = false ∧ st'.2.1.kn = s.kn ∧ st'.2.1.puts = s.puts) ∧ (st'.2.2.map (·.1)).Nodup ∧ ∀ a, lookW st'.2.2 a = partW kn s (s.writes.take st'.1) a)
        (fun st' => s.writes.length - st'.1) (0, s, kn3) ⟨rfl, rfl, rfl, rfl, rfl, rfl, rfl, rfl, trivial⟩ ⟨rfl, Nat.zero_le _, ⟨hL.live, rfl, rfl⟩, hn3, fun a => by rw [List.take_zero, partW_nil]; exact hk5 a⟩ ?_
      rintro ⟨j, s2, kn4⟩ Γ junk ⟨rfl, h1, ⟨g1, g2, g3⟩, h2, h3⟩
      dsimp only at h1 g1 g2 g3 h2 h3 ⊢
      by_cases hj : j < s.writes.length
      · obtain ⟨y, hy⟩ : ∃ y, s.writes[j]? = some y := ⟨_, List.getElem?_eq_getElem hj⟩
        have hr := ints_rd hy
        obtain ⟨pq, hpq, hpy⟩ := (Sp.writes_mem y).1 (List.mem_of_getElem? hy)
        have hyrd := hL.wf.pr pq hpq
        rw [hpy] at hyrd
        obtain ⟨wy, hwy⟩ : ∃ w, lookW kn y = some w := by
          cases h : lookW kn y with
          | none => exact absurd ((hks y).trans h) (hL.wf.rk y hyrd)
          | some w => exact ⟨w, rfl⟩
        obtain ⟨v1, v2, v3, v4, v5⟩ := hw.wd y wy hwy
        have hE : (s.value y).2 = true := hpy ▸ value_wr hpq
        have hval : s2.value y = s.value y := by simp only [Sp.value, g2, g3]
        have hg := get_live (s := s2) (x := y) g1 (by rw [g2, hks]; exact hwy)
        have hG := get_spec w0 p s2 y (by rw [g3]; omega)
        rw [hg, hval] at hG
        have hlk : (Vc.look (knM kn) y).getD (.agg #[.int .i64 0, .int .u32 0, .int .u32 0]) = .agg #[.int .i64 wy.val, .int .u32 wy.ver, .int .u32 wy.ref] := by rw [look_knM, hwy]; rfl
        have ht : s.writes.take (j + 1) = s.writes.take j ++ [y] := by rw [List.take_add_one, hy]; rfl
        have hwr : IntKind.u32.wrap (wy.ver + 1) = wy.ver + 1 := wrap_u32 (by omega) (by omega)
        refine run_sl_cases 1 rfl (fun _ h _ _ => absurd h (by omega)) ?_
        intro bb k1 k2 k3
        subst k1
        repeat (first | refine zck ?_ | refine zcl ?_ | refine zcm ?_ | refine zcn ?_)
        first | refine zcp (by kernel_rfl) ?_ | refine zcr [(.quiet, 0), (.quiet, 1), (.quiet, 2), (.quiet, 3), (.loud, 4), (.quiet, 5), (.quiet, 6), (.loud, 7), (.quiet, 8), (.quiet, 9), (.quiet, 10), (.loud, 11)] PP_mixed (by kernel_rfl) (by kernel_rfl) ?_ | refine zcq PP_mixed (by kernel_rfl) (by kernel_rfl) ?_
        repeat' (refine zap rfl ?_; first | refine zbg rfl rfl (by omega) ?_)
        all_goals refine zch ?_
        all_goals repeat (first | refine zck ?_ | refine zcl ?_ | refine zcm ?_ | refine zcn ?_)
        refine zci rfl ?_
        repeat (first | refine zck ?_ | refine zcl ?_ | refine zcm ?_ | refine zcn ?_)
        first | refine zcp (by kernel_rfl) ?_ | refine zcr [(.quiet, 0), (.quiet, 1), (.quiet, 2), (.quiet, 3), (.loud, 4), (.quiet, 5), (.quiet, 6), (.loud, 7), (.quiet, 8), (.quiet, 9), (.quiet, 10), (.loud, 11)] PP_mixed (by kernel_rfl) (by kernel_rfl) ?_ | refine zcq PP_mixed (by kernel_rfl) (by kernel_rfl) ?_
        repeat' (refine zap rfl ?_; first | refine zag 1 rfl rfl (hr _ (by omega)) (by intro h; cases h) ?_ | refine zan rfl ?_ | refine zas rfl rfl (by omega) ?_)
        all_goals refine zch ?_
        all_goals repeat (refine zck ?_)
        refine zcr [(.quiet, 0), (.quiet, 1), (.quiet, 2), (.quiet, 3), (.loud, 4), (.quiet, 5), (.quiet, 6), (.quiet, 7), (.quiet, 8), (.quiet, 9), (.quiet, 10), (.loud, 11)] PP_mixed (by kernel_rfl) (by kernel_rfl) ?_
        repeat' (refine zap rfl ?_; first | refine reg_lookup_sh 0 rfl rfl rfl hlk ?_ | refine reg_fieldV rfl rfl ?_ | (refine reg_add (t := 66) rfl rfl ?_; rw [hwr]) | refine zcb rfl ?_ | refine reg_mapUpdate 3 rfl rfl rfl rfl rfl ?_ | refine zan rfl ?_ | refine zah [0] hG rfl rfl rfl sub_nil rfl ?_)
        refine zch ?_
        repeat' (first | refine zcp (by kernel_rfl) ?_ | refine zcn ?_ | (refine zap rfl ?_; first | refine zan rfl ?_ | refine zau rfl rfl (by omega) ?_) | refine zch ?_)
        refine cut_end ⟨rfl, (j + 1, { s2 with rd := insI s2.rd y }, insW kn4 y ⟨(s.value y).1, wy.ver + 1, 0⟩), ⟨rfl, rfl, rfl, rfl, rfl, rfl, rfl, int_eq (by dsimp only; omega), trivial⟩, ⟨?_, by dsimp only; omega, ⟨g1, g2, g3⟩, insW_keys _ _ _ h2, fun a => ?_⟩, by dsimp only; omega⟩
        · show _ = [_, _, _, pt nx (mapI (knM (insW kn4 y _)))]
          rw [← ins_knM]; rfl
        · dsimp only
          rw [look_insW, ht, partW_snoc, h3]
          by_cases e : y = a
          · subst e
            rw [if_pos rfl, if_pos rfl, nextW, hwy]
            simp [hE]
          · rw [if_neg e, if_neg e]
      · repeat' (first | refine zck ?_ | refine zcp (by kernel_rfl) ?_ | (refine zap rfl ?_; first | refine zbh rfl rfl (by omega) ?_) | refine zch ?_ | refine zcj rfl ?_)
        refine cut_exit rfl rfl ?_
        refine run_take [0, 1, 1] rfl ?_
        have e : j = s.writes.length := by omega
        subst e
        refine cut_end ⟨rfl, ⟨(s2, kn4), g1, h2, fun a => ?_⟩, ⟨rfl, rfl, rfl, rfl, rfl, trivial⟩, rfl⟩
        dsimp only
        rw [h3]
        refine partW_all (fun q hq => ?_) a
        rw [List.take_length]
        exact (Sp.writes_mem _).2 ⟨q, hq, rfl⟩
    · rintro ⟨⟨s2, kn4⟩, g1, hn4, hk4⟩ junk
      dsimp only at g1 hn4 hk4 ⊢
      repeat' (first | refine zck ?_ | refine zcp (by kernel_rfl) ?_ | (refine zap rfl ?_; first | (refine zbx rfl ?_; rw [g1]) | refine zaj rfl ?_ | refine zan rfl ?_ | refine zan rfl ?_ | refine zah [0] (ended_spec w0 p s2) rfl rfl rfl sub_nil rfl ?_ | refine zbc rfl rfl (by omega) ?_ | refine zbd rfl rfl (by omega) ?_ | refine zbu rfl ?_ | refine zbv rfl ?_) | refine zch ?_)
      refine run_take [2, 1] rfl ?_
      refine ret_tmp3 rfl ?_
      exact ⟨st, s, nx, ea, es.length, ecap, kn4, rfl, rfl, hψ, nextW_ok hw hn4 hk4, hk4⟩
end Go.Proofs.YtloekplbhknepaaGreat

namespace Sim
open Go Go.Vc
structure WM (N T : Int) (kn : List (Int × Wd)) (m : Int → Int) : Prop where
  ok : WOk T kn
  dom : ∀ a, lookW kn a ≠ none ↔ (0 ≤ a ∧ a < N)
  val : ∀ a, 0 ≤ a → a < N → valW kn a = m a
structure Cu (N : Int) (s0 s : Sp) (m : Int → Int) (j : Nat) : Prop where
  vw : Vw s0 N s m
  wf : Wf s
  few : s.puts.length ≤ j
theorem Cu.start {N T : Int} {kn : List (Int × Wd)} {m : Int → Int} (h : WM N T kn m) {s : Sp} (h1 : s.puts = []) (h2 : s.rd = []) (h3 : s.ended = false) (h4 : ∀ a, lookW s.kn a = lookW kn a) : Cu N s s m 0 := by
  refine ⟨⟨h3, rfl, fun a a1 a2 => ?_, ⟨[], by simp⟩, fun a a1 a2 => ?_⟩, ⟨by rw [h2]; exact List.nodup_nil, (by rw [h2]; intro x hx; cases hx), (by rw [h1]; intro p hp; cases hp)⟩, by rw [h1]; exact Nat.le_refl _⟩
  · cases hl : lookW s.kn a with
    | some w => exact ⟨w, rfl⟩
    | none => rw [h4] at hl; exact absurd hl ((h.dom a).2 ⟨a1, a2⟩)
  · rw [← h.val a a1 a2]
    unfold Sp.value valW
    rw [h1, h4]
    rfl
theorem Cu.run {N : Int} {s0 s : Sp} {m : Int → Int} {j i : Nat} {α : Type} {g : Pg α} {Q : α → (Int → Int) → Prop} (h : Cu N s0 s m j) (hb : Pg.Bd i g) (hj : j + i ≤ 50000) (hq : Pg.Ok N g m Q) :
    Pg.Fits g s ∧ ∃ m', Cu N s0 (Pg.run g s).2 m' (j + i) ∧ Q (Pg.run g s).1 m' := by
  have hf := h.few
  refine ⟨Pg.fits_of g i s hb (by omega), ?_⟩
  obtain ⟨m', h1, h2⟩ := hq s0 s h.vw
  exact ⟨m', ⟨h1, (Pg.wf g h.wf).1, by have := Pg.run_len g i s hb; omega⟩, h2⟩
theorem WM.next {N T : Int} {kn kn2 : List (Int × Wd)} {m m' : Int → Int} (h : WM N T kn m) (h2 : WOk (T + 1) kn2) {s0 s : Sp} {j : Nat} (hc : Cu N s0 s m' j) (hk : ∀ a, lookW s0.kn a = lookW kn a) (hn : ∀ a, lookW kn2 a = nextW kn s a) : WM N (T + 1) kn2 m' := by
  refine ⟨h2, fun a => ?_, fun a a1 a2 => ?_⟩
  · rw [hn, nextW, ← h.dom a]
    cases lookW kn a <;> simp
  · have hv := hc.vw.val a a1 a2
    cases hl : lookW kn a with
    | none => exact absurd hl ((h.dom a).2 ⟨a1, a2⟩)
    | some w =>
      unfold valW
      rw [hn, nextW, hl]
      simp only [Option.map_some]
      split
      · exact hv
      · rename_i hw
        have hw : (s.value a).2 = false := by simpa using hw
        have := value_not hw
        rw [hc.vw.kn, hk, hl] at this
        rw [← hv, this]
theorem knLen {ka kb : List (Int × Wd)} (ha : (ka.map (·.1)).Nodup) (hb : (kb.map (·.1)).Nodup) (h : ∀ a, lookW ka a ≠ none ↔ lookW kb a ≠ none) : ka.length = kb.length := by
  have hp : (ka.map (·.1)).Perm (kb.map (·.1)) := by
    rw [List.perm_ext_iff_of_nodup ha hb]
    intro a
    have h1 := look_none ka a
    have h2 := look_none kb a
    have h3 := h a
    constructor
    · intro hm
      refine Classical.byContradiction fun hn => ?_
      exact (h3.1 (fun e => (h1.1 e) hm)) (h2.2 hn)
    · intro hm
      refine Classical.byContradiction fun hn => ?_
      exact (h3.2 (fun e => (h2.1 e) hm)) (h1.2 hn)
  have := hp.length_eq
  simpa using this
theorem alike_same {N T T' : Int} {ka kb : List (Int × Wd)} {m : Int → Int} (ha : WM N T ka m) (hb : WM N T' kb m) : alikeB ka kb = true := by
  unfold alikeB
  rw [decide_eq_true (knLen ha.ok.nd hb.ok.nd fun a => (ha.dom a).trans (hb.dom a).symm), Bool.true_and, List.all_eq_true]
  intro p hp
  obtain ⟨q, hq⟩ := List.mem_iff_getElem?.1 hp
  have hl := keys_look ka ha.ok.nd q p.1 p.2 hq
  obtain ⟨g1, g2⟩ := (ha.dom p.1).1 (by rw [hl]; exact fun e => by cases e)
  rw [decide_eq_true_eq, hb.val p.1 g1 g2, ← ha.val p.1 g1 g2]
  unfold valW; rw [hl]
theorem fresh_WM (N : Nat) (hN : N ≤ 4096) : WM N 0 (wk 0 (List.replicate N 0)) (fun _ => 0) := by
  have hl : ∀ a, lookW (wk 0 (List.replicate N 0)) a = if 0 ≤ a ∧ a < (N : Int) then some ⟨0, 0, 0⟩ else none := by
    intro a
    rw [lookW_wk]
    simp only [List.length_replicate, Int.natCast_zero, Int.zero_add, Int.sub_zero]
    by_cases h : 0 ≤ a ∧ a < (N : Int)
    · rw [if_pos h, if_pos h, List.getElem?_replicate, if_pos (by omega)]; rfl
    · rw [if_neg h, if_neg h]
  refine ⟨⟨?_, fun a w hw => ?_⟩, fun a => ?_, fun a a1 a2 => ?_⟩
  · have : ∀ (i : Nat) (l : List Int), ((wk i l).map (·.1)) = (List.range' i l.length).map (fun (q : Nat) => (q : Int)) := by
      intro i l
      induction l generalizing i with
      | nil => rfl
      | cons v r ih => simp only [wk, List.map_cons, List.length_cons, List.range'_succ, ih (i + 1)]
    rw [this]
    rw [List.nodup_iff_pairwise_ne, List.pairwise_map]
    exact (List.nodup_iff_pairwise_ne.1 (List.nodup_range' (s := 0) (step := 1))).imp (fun h e => h (by omega))
  · rw [hl] at hw
    split at hw
    · cases hw; dsimp only; omega
    · cases hw
  · rw [hl]; split
    · rename_i h; simp [h]
    · rename_i h; simp; omega
  · unfold valW; rw [hl, if_pos ⟨a1, a2⟩]
end Sim
namespace Go.Proofs.YtloekplbhknepaaGreat
open Go.Vc Sim
section
variable {w0 : World} {n : Nat} {sh shf : Shared} {Q : Exit → Env → List Deferred → List Asn → Prop} {k : List Item} {ρ : Env} {df : List Deferred} {Γ Γr : List Asn}
variable {ops : Array Oper} {l : List (Fl × Nat × Oper)} {i : Nat} {ty : TypeId} {pos : String} {aft : Array Edge} {dst : Option Tmp}
variable {f : FuncId} {args : List Value} {fo : Operand} {cargs : Array Operand} {ats : Array TypeId} {first cap : Array Value}
theorem reg_callO (is : List Nat) {α : Type} {N : Int} {g : Pg α} {s0 s : Sp} {m : Int → Int} {j q p : Nat} {enc : α → Value} {R : α → (Int → Int) → Prop} (hC : Cu N s0 s m j) (hB : Pg.Bd q g) (hO : Pg.Ok N g m R) (hj : j + q ≤ 50000) (spec : FnG w0 shf f args p g enc)
    (hfo : ev ρ fo = .func (.func f) first cap) (hargs : first.toList ++ cargs.toList.map (ev ρ) ++ cap.toList = args)
    (hp : pick is Γ = some ([SpaceA p s], Γr)) (hsh : ∀ p ∈ shf, p ∈ sh) (h : ∀ x s' m', R x m' → Cu N s0 s' m' (j + q) → Reg PP w0 n sh Q ops l k (ρ.setO dst (enc x)) df (SpaceA p s' :: Γr)) :
    Reg PP w0 n sh Q ops ((Fl.loud, i, ⟨dst, .call ⟨.value fo, cargs, ats⟩, ty, pos, aft, none⟩) :: l) k ρ df Γ := by
  obtain ⟨h1, m', h2, h3⟩ := hC.run hB hj hO
  exact zah is (spec s h1) hfo hargs hp hsh rfl (h _ _ m' h3 h2)
end
theorem done_mem {σ : Type} (w0 : World) (shc : Shared) (wb : Nat) (kn : List (Int × Wd)) (N T : Int) (m : Int → Int) (hT : T ≤ 1000000) (hw : WM N T kn m) (f : FuncId) (cap : Array Value) (A : Asn) (A' : σ → Asn) (M : σ → Int → Int)
    (hdo : ∀ p s, Cu N s s m 0 → (∀ a, lookW s.kn a = lookW kn a) → Vc.Fn PP w0 shc f (spP p :: cap.toList) [SpaceA p s, A] (fun v Γ => ∃ st s' j, v = .tuple #[] ∧ Γ = [SpaceA p s', A' st] ∧ j ≤ 50000 ∧ Cu N s s' (M st) j)) :
    Vc.Fn PP w0 ((wb, mapI (knM kn)) :: shc) 19 [.map (some wb), .func (.func f) #[] cap] [A]
      (fun v Γ => ∃ st nb a len c kn2, v = .tuple #[.map (some nb), .slice a len c, .bool true] ∧ Γ = [pt nb (mapI (knM kn2)), A' st] ∧ WM N (T + 1) kn2 (M st)) := by
  refine (done_spec w0 shc wb kn T hT hw.ok f cap A A' (fun st s' => ∃ s0 j, Cu N s0 s' (M st) j ∧ ∀ a, lookW s0.kn a = lookW kn a) fun p s h1 h2 h3 h4 => ?_).mono ?_
  · refine (hdo p s (Cu.start hw h1 h2 h3 h4) h4).mono ?_
    rintro v Γ ⟨st, s', j, hv, hΓ, hj, hc⟩
    exact ⟨st, s', hv, hΓ, ⟨hc.vw.live, hc.wf, hc.vw.kn, by have := hc.few; omega⟩, s, j, hc, h4⟩
  · rintro v Γ ⟨st, s', nb, a, len, c, kn2, hv, hΓ, ⟨s0, j, hc, hk⟩, h5, h6⟩
    exact ⟨st, nb, a, len, c, kn2, hv, hΓ, hw.next h5 hc hk h6⟩
end Go.Proofs.YtloekplbhknepaaGreat

namespace Sim
open Go Go.Vc
def TOk (K : Int) (hs : Int → Int) (hv : Int → Bool) (m : Int → Int) (l : List Ri) : Prop := ∃ I B Q, TM K hs hv m I B Q ∧ Tr.Tight I B ∧ Ag I l
def wasL (l : List Ri) (n : Int) : Int := if (rfind l n).2 = true then (match l[(rfind l n).1]? with | some x => x.v | none => 0) else 0
section
variable {K : Int} {hs : Int → Int} {hv : Int → Bool} {m : Int → Int} {l : List Ri}
theorem look_was {I : List It} (hA : Ag I l) (n : Int) : (∃ x, Tr.look I n = some x ∧ rfind l n = ((rfind l n).1, true) ∧ wasL l n = x.v ∧ x.n = n) ∨ (Tr.look I n = none ∧ rfind l n = ((rfind l n).1, false) ∧ wasL l n = 0) := by
  rcases rfind_look hA n with ⟨x, A, B, h1, h2, h3, h4⟩ | ⟨A, B, h1, h2, h3, _⟩
  · refine .inl ⟨x, h1, by rw [h3], ?_, h4⟩
    unfold wasL
    rw [h3, if_pos rfl]
    dsimp only
    rw [h2, List.getElem?_append_right (Nat.le_refl _), Nat.sub_self]
    rfl
  · refine .inr ⟨h1, by rw [h3], ?_⟩
    unfold wasL
    rw [h3]
    exact if_neg (fun h => by cases h)
theorem TOk.hh (h : TOk K hs hv m l) : ∀ x ∈ l, x.h = hs x.n ∧ hv x.n = true ∧ 0 ≤ x.h := by
  obtain ⟨I, B, Q, M, _, A⟩ := h
  intro x hx
  obtain ⟨y, hy, rfl⟩ := List.mem_map.1 (A.pm.mem_iff.1 hx)
  exact M.sh.hh y hy
theorem TOk.few (hK : 0 ≤ K ∧ K ≤ 60) (h : TOk K hs hv m l) : (rnodes l : Int) ≤ K ∧ (l.length : Int) ≤ K ∧ l.length ≤ 60 := by
  obtain ⟨I, B, Q, M, hT, A⟩ := h
  have h1 := Tr.few hK M
  have h2 := Tr.nodes_ok M hT A
  have h3 : l.length = I.length := by rw [A.pm.length_eq, List.length_map]
  omega
theorem TOk.get (hK : 0 ≤ K ∧ K ≤ 60) (h : TOk K hs hv m l) (n : Int) : Pg.Ok 544 ((t0 K hs hv).get n (hs n)) m fun r m' => r = (wasL l n, (rfind l n).2) ∧ m' = m := by
  obtain ⟨I, B, Q, M, hT, A⟩ := h
  refine (Tr.get_ok hK M n).mono ?_
  rintro r m' ⟨rfl, rfl⟩
  refine ⟨?_, rfl⟩
  unfold Tr.gotR
  rcases look_was A n with ⟨x, h1, h2, h3, _⟩ | ⟨h1, h2, h3⟩
  · rw [h1, h3, h2]
  · rw [h1, h3, h2]
theorem TOk.drop (hK : 0 ≤ K ∧ K ≤ 60) (h : TOk K hs hv m l) (n : Int) : Pg.Ok 544 ((t0 K hs hv).drop n (hs n)) m fun r m' => r = ((wasL l n, (rfind l n).2), 0) ∧ TOk K hs hv m' (rdrop l n) := by
  obtain ⟨I, B, Q, M, hT, A⟩ := h
  refine (Tr.drop_ok hK M hT n).mono ?_
  intro r m' hr
  unfold Tr.DropR at hr
  rcases look_was A n with ⟨x, h1, h2, h3, _⟩ | ⟨h1, h2, h3⟩
  · rw [h1] at hr
    obtain ⟨rfl, B', Q', M', T'⟩ := hr
    rw [h3, h2]
    exact ⟨rfl, _, B', Q', M', T', ag_drop A h1⟩
  · rw [h1] at hr
    obtain ⟨rfl, rfl⟩ := hr
    rw [h3, h2, rdrop_none A h1]
    exact ⟨rfl, I, B, Q, M, hT, A⟩
theorem TOk.put (hK : 0 ≤ K ∧ K ≤ 60) (h : TOk K hs hv m l) (n v : Int) (hn : hv n = true ∧ 0 ≤ hs n) : Pg.Ok 544 ((t0 K hs hv).put n (hs n) v) m fun r m' =>
    (r = ((wasL l n, (rfind l n).2), 0) ∧ (rnodes (rput l ⟨n, hs n, v⟩) : Int) ≤ K ∧ TOk K hs hv m' (rput l ⟨n, hs n, v⟩)) ∨ (r = ((0, false), 9) ∧ K < (rnodes (rput l ⟨n, hs n, v⟩) : Int) ∧ m' = m) := by
  obtain ⟨I, B, Q, M, hT, A⟩ := h
  refine (Tr.put_ok hK M hT n v hn).mono ?_
  intro r m' hr
  unfold Tr.PutR at hr
  rcases look_was A n with ⟨x, h1, h2, h3, h4⟩ | ⟨h1, h2, h3⟩
  · rw [h1] at hr
    obtain ⟨rfl, B', Q', M', T'⟩ := hr
    have hx := M.sh.hh x (Tr.look_some h1).1
    have A' := ag_put_old (h := hs n) (v := v) A h1 (by rw [hx.1, h4])
    have ht : TOk K hs hv m' (rput l ⟨n, hs n, v⟩) := ⟨_, B', Q', M', T', A'⟩
    rw [h3, h2]
    exact .inl ⟨rfl, (ht.few hK).1, ht⟩
  · rw [h1] at hr
    rcases hr with ⟨rfl, a, B', Q', M', T'⟩ | ⟨rfl, rfl, hO⟩
    · have ht : TOk K hs hv m' (rput l ⟨n, hs n, v⟩) := ⟨_, B', Q', M', T', ag_put_new A h1⟩
      rw [h3, h2]
      exact .inl ⟨rfl, (ht.few hK).1, ht⟩
    · exact .inr ⟨rfl, Tr.over_nodes (n := n) (v := v) (a := 0) (ag_put_new A h1) hO, rfl⟩
theorem TOk.len (h : TOk K hs hv m l) : Pg.Ok 544 ((t0 K hs hv).len) m fun r m' => r = (l.length : Int) ∧ m' = m := by
  obtain ⟨I, B, Q, M, hT, A⟩ := h
  have h3 : l.length = I.length := by rw [A.pm.length_eq, List.length_map]
  exact Pg.Ok.get (show (0 : Int) ≤ 17 by decide) (show (17 : Int) < 544 by decide) (Pg.Ok.pure ⟨by rw [h3]; exact M.len, rfl⟩)
theorem TOk.nod (h : TOk K hs hv m l) : Pg.Ok 544 (Pg.gt 23) m fun r m' => r = (rnodes l : Int) ∧ m' = m := by
  obtain ⟨I, B, Q, M, hT, A⟩ := h
  have h2 := Tr.nodes_ok M hT A
  exact Pg.Ok.get (by decide) (by decide) (Pg.Ok.pure ⟨by rw [h2, M.nod]; omega, rfl⟩)
theorem sorted_one : ∀ (A B : List (Int × Int)), A.Perm B → A.Pairwise (fun x y => x.1 ≤ y.1) → B.Pairwise (fun x y => x.1 < y.1) → A = B
  | [], B, hp, _, _ => (List.nil_perm.1 hp).symm
  | a :: A, [], hp, _, _ => List.perm_nil.1 hp
  | a :: A, b :: B, hp, hA, hB => by
    obtain ⟨a1, a2⟩ := List.pairwise_cons.1 hA
    obtain ⟨b1, b2⟩ := List.pairwise_cons.1 hB
    have hab : a = b := by
      have h1 : a ∈ b :: B := hp.mem_iff.1 (by simp)
      have h2 : b ∈ a :: A := hp.mem_iff.2 (by simp)
      rcases List.mem_cons.1 h1 with e | h1
      · exact e
      rcases List.mem_cons.1 h2 with e | h2
      · exact e.symm
      have := b1 a h1; have := a1 b h2; omega
    subst hab
    rw [sorted_one A B ((List.perm_cons a).1 hp) a2 b2]
theorem TOk.zero (hK : 0 ≤ K ∧ K ≤ 60) : TOk K hs hv (fun _ => 0) [] := by
  refine ⟨[], fun _ _ => 0, [], ⟨⟨?_, List.nodup_nil, fun d p => by simp, fun d p h => absurd rfl h, fun d h hb => absurd rfl hb, fun d p d' p' hb => absurd rfl hb, fun x hx => (by cases hx), List.nodup_nil, List.nodup_nil, fun x hx => (by cases hx), fun d h _ _ _ => Nat.zero_le _⟩, ⟨fun x hx => (by cases hx), fun q => trivial, fun h d _ _ => rfl⟩, ?_, rfl, rfl⟩, fun e q hb => absurd rfl hb, ⟨List.Pairwise.nil, List.Perm.refl _⟩⟩
  · rintro b (⟨x, hx, _⟩ | ⟨d, p, hb, _⟩)
    · cases hx
    · exact absurd rfl hb
  · exact ⟨[], 0, Int.le_refl _, hK.1, rfl, rfl, rfl, List.nodup_nil, by simp, fun b => ⟨fun hu => by
      rcases hu with ⟨x, hx, _⟩ | ⟨d, p, hb, _⟩
      · cases hx
      · exact absurd rfl hb, fun ⟨⟨k, h0, h1, _⟩, _⟩ => by omega⟩, rfl, Int.le_refl _⟩
end
end Sim
namespace Go.Proofs.YtloekplbhknepaaGreat
open Go.Vc Sim
theorem walkS_ok {K : Int} {hs : Int → Int} {hv : Int → Bool} {m : Int → Int} {l : List Ri} (hK : 0 ≤ K ∧ K ≤ 60) (h : TOk K hs hv m l) : Pg.Ok 544 (walkS (t0 K hs hv)) m fun r m' => r = (l.map fun x => (x.n, x.v), 0) ∧ m' = m := by
  obtain ⟨I, B, Q, M, hT, A⟩ := h
  unfold walkS
  refine Pg.Ok.bind _ (Tr.walk_ok hK M) ?_
  rintro r m' ⟨rfl, h1, h2⟩
  rw [if_pos h1]
  refine Pg.Ok.pure ⟨?_, rfl⟩
  obtain ⟨s1, s2⟩ := SF.sortP_holds r.1.1
  congr 1
  refine sorted_one _ _ (s1.trans (h2.trans ?_)) s2 ?_
  · have := (A.pm.map fun x : Ri => (x.n, x.v)).symm
    rw [List.map_map] at this
    exact this
  · rw [List.pairwise_map]
    exact A.up
end Go.Proofs.YtloekplbhknepaaGreat

namespace Sim
open Go Go.Vc
def stepL (K : Int) (hs : Int → Int) (l : List Ri) (d n v : Int) : List Ri :=
  if d % 4 = 2 then l else if d % 4 = 3 then rdrop l n else if (rnodes (rput l ⟨n, hs n, v⟩) : Int) ≤ K then rput l ⟨n, hs n, v⟩ else l
abbrev tI (K : Int) : Tr := t0 K hsI (fun _ => true)
theorem tI_ok {K : Int} (hK : 0 ≤ K ∧ K ≤ 60) : (tI K).Ok := ⟨tP_ok hK, (by decide : (0 : Int) ≤ 16), (by decide : (16 : Int) ≤ 4096), (by show K ≤ 100; omega), fun n => (hsI_in n).1, fun n => (hsI_in n).2⟩
theorem rput_hh {l : List Ri} {y : Ri} (h : ∀ x ∈ l, 0 ≤ x.h) (hy : 0 ≤ y.h) : ∀ x ∈ rput l y, 0 ≤ x.h := by
  intro x hx
  unfold rput at hx
  rcases List.mem_append.1 hx with hx | hx
  · rcases List.mem_append.1 hx with hx | hx
    · exact h x (List.mem_of_mem_take hx)
    · rw [List.mem_singleton] at hx; rw [hx]; exact hy
  · exact h x (List.mem_of_mem_drop hx)
theorem tI_isI {K : Int} : (tI K).IsI := ⟨rfl, fun _ => rfl⟩
end Sim
namespace Go.Proofs.YtloekplbhknepaaGreat
open Go.Vc Sim
set_option maxHeartbeats 8000000
abbrev stC (wb : Nat) (K : Int) (a : Option Addr) (c : Nat) (l : List Ri) : List Value := [.map (some wb), kV, .int .i64 1, .int .i64 64, .int .i64 K, .int .i64 16, .slice a l.length c]
abbrev stB (xb wb : Nat) (K : Int) (a : Option Addr) (c : Nat) (l : List Ri) : Asn := pt xb (.cells (List.toArray (stC wb K a c l)) 35 (0, 0))
abbrev okB (ob : Nat) (b : Bool) : Asn := pt ob (.cells (List.toArray [.bool b]) 4 (0, 0))
abbrev LstT (a : Option Addr) (c : Nat) (l : List Ri) : Asn := LstE encT 3 94 (.slice a l.length c) l
abbrev clC (d n v : Int) : Obj := .cells (List.toArray [.int .u8 d, .int .i64 n, .int .i64 v]) 64 (0, 0)
abbrev intC (n : Int) : Obj := .cells (List.toArray [.int .i64 n]) 2 (0, 0)
abbrev boolC (b : Bool) : Obj := .cells (List.toArray [.bool b]) 4 (0, 0)
section
variable {w0 : World} {n : Nat} {sh : Shared} {Q : Exit → Env → List Deferred → List Asn → Prop} {k : List Item} {ρ : Env} {df : List Deferred} {Γ : List Asn}
variable {ops : Array Oper} {i : Nat} {ty : TypeId} {pos : String} {aft : Array Edge}
theorem reg_eqBT {p : Bool} {f : Fl} {x y : Operand} {t yt : TypeId} {d : Tmp} {l : List (Fl × Nat × Oper)} [hT : TUnd PP t .bool] (hx : ev ρ x = .bool p) (hy : ev ρ y = .bool p) (h : Reg PP w0 n sh Q ops l k (ρ.set d (.bool true)) df Γ) :
    Reg PP w0 n sh Q ops ((f, i, ⟨some d, .binOp .eql t x y yt, ty, pos, aft, none⟩) :: l) k ρ df Γ :=
  zbb hx hy (by rw [beq_self_eq_true]; exact h)
end
structure Ts (K : Int) (l : List Ri) where
  m : Int → Int
  a : Option Addr
  c : Nat
  ok : TOk K hsI (fun _ => true) m l
section
variable {K : Int} {m : Int → Int} {l : List Ri}
theorem step1_spec (w0 : World) (sh : Shared) (p cb xb ab hb ob ib mb wb : Nat) (hK : 0 ≤ K ∧ K ≤ 60) (a : Option Addr) (c : Nat) (s : Sp) (hC : Cu 544 s s m 0) (h : TOk K hsI (fun _ => true) m l) (d n v : Int) (hd : 0 ≤ d ∧ d ≤ 255)
    (hcb : (cb, clC d n v) ∈ sh) (hab : (ab, intC (wasL l n)) ∈ sh) (hhb : (hb, boolC (rfind l n).2) ∈ sh) (hib : (ib, boolC true) ∈ sh) (hmb : (mb, intC n) ∈ sh) (l' : List Ri) (hl' : stepL K hsI l d n v = l') :
    Vc.Fn PP w0 sh 66 [spP p, ptr cb, ptr xb, ptr ab, ptr hb, ptr ob, ptr ib, ptr mb] [SpaceA p s, StarsA [stB xb wb K a c l, okB ob true, LstT a c l]]
      (fun v Γ => ∃ (st : Ts K l') (s' : Sp) (j : Nat), v = .tuple #[] ∧ Γ = [SpaceA p s', StarsA [stB xb wb K st.a st.c l', okB ob true, LstT st.a st.c l']] ∧ j ≤ 50000 ∧ Cu 544 s s' st.m j) := by
  have hT := tI_ok hK
  have hlen := (h.few hK).2.2
  refine fn_of_run en66 fn66 rfl rfl rfl ?_
  refine run_unpack [1] rfl ?_
  refine run_lendE [2] rfl fun sh' hi hR => ?_
  have hmc : ∀ hF Γ w, Sh sh' hF → St w0 hF Γ w → w.heap[cb]? = some (clC d n v) := fun hF Γ w h1 h2 => (h2.frame (h1 _ (hi _ hcb))).2
  have hma : ∀ hF Γ w, Sh sh' hF → St w0 hF Γ w → w.heap[ab]? = some (intC (wasL l n)) := fun hF Γ w h1 h2 => (h2.frame (h1 _ (hi _ hab))).2
  have hmh : ∀ hF Γ w, Sh sh' hF → St w0 hF Γ w → w.heap[hb]? = some (boolC (rfind l n).2) := fun hF Γ w h1 h2 => (h2.frame (h1 _ (hi _ hhb))).2
  have hmi : ∀ hF Γ w, Sh sh' hF → St w0 hF Γ w → w.heap[ib]? = some (boolC true) := fun hF Γ w h1 h2 => (h2.frame (h1 _ (hi _ hib))).2
  have hmm : ∀ hF Γ w, Sh sh' hF → St w0 hF Γ w → w.heap[mb]? = some (intC n) := fun hF Γ w h1 h2 => (h2.frame (h1 _ (hi _ hmb))).2
  have HM : ∀ (sh2 : Shared) (hi2 : ∀ p ∈ sh', p ∈ sh2) (b : Nat) (o : Obj), (b, o) ∈ sh → ∀ hF Γ w, Sh sh2 hF → St w0 hF Γ w → w.heap[b]? = some o := fun sh2 hi2 b o hm hF Γ w h1 h2 => (h2.frame (h1 _ (hi2 _ (hi _ hm)))).2
  repeat (first | refine zck ?_ | refine zcl ?_ | refine zcm ?_ | refine zcn ?_)
  first | refine zcp (by kernel_rfl) ?_ | refine zcq PP_mixed (by kernel_rfl) (by kernel_rfl) ?_
  repeat' (refine zap rfl ?_; first | refine reg_rem_nn rfl rfl hd.1 (by decide) ?_ | refine zad rfl hmc rfl ?_ | refine zao rfl ?_)
  all_goals refine zch ?_
  all_goals repeat (first | refine zck ?_ | refine zcl ?_ | refine zcm ?_ | refine zcn ?_)
  unfold stepL at hl'
  by_cases c2 : d % 4 = 2
  · rw [if_pos c2] at hl'
    subst hl'
    repeat (first | refine zck ?_ | refine zcl ?_ | refine zcm ?_ | refine zcn ?_)
    first | refine zcp (by kernel_rfl) ?_ | refine zcq PP_mixed (by kernel_rfl) (by kernel_rfl) ?_
    repeat' (refine zap rfl ?_; first | refine zan rfl ?_ | refine zbc rfl rfl (by omega) ?_)
    all_goals refine zch ?_
    all_goals repeat (first | refine zck ?_ | refine zcl ?_ | refine zcm ?_ | refine zcn ?_)
    refine zci rfl ?_
    repeat (first | refine zck ?_ | refine zcl ?_ | refine zcm ?_ | refine zcn ?_)
    first | refine zcp (by kernel_rfl) ?_ | refine zcq PP_mixed (by kernel_rfl) (by kernel_rfl) ?_
    repeat' (refine zap rfl ?_; first | refine zad rfl hmc rfl ?_ | refine zan rfl ?_ | refine zan rfl ?_ | refine zab 0 rfl rfl rfl ?_ | (refine reg_callO [2] hC ((tI K).bd_get n (hsI n)) (h.get hK n) (by omega) (trGet w0 p (tI K) hT tI_isI n) rfl rfl rfl sub_nil ?_; rintro x s' m' ⟨rfl, em⟩ hC; rw [em] at hC) | refine zao rfl ?_ | refine zan rfl ?_)
    all_goals refine zch ?_
    all_goals repeat (first | refine zck ?_ | refine zcl ?_ | refine zcm ?_ | refine zcn ?_)
    repeat' (first | refine zcp (by kernel_rfl) ?_ | refine zcn ?_ | (refine zap rfl ?_; first | refine reg_eqBT rfl rfl ?_ | refine zbc rfl rfl (by dsimp only) ?_ | refine zad rfl hma rfl ?_ | refine zad rfl hmh rfl ?_ | refine zaj rfl ?_ | refine zan rfl ?_ | (refine zai [0] (writes_spec w0 p s' (by have := hC.few; omega)) rfl rfl rfl sub_nil ?_; rintro v Γ' ⟨wa, wcap, rfl, rfl⟩; have hw0 : s'.writes.length = 0 := Sp.writes_len0.2 (List.length_eq_zero_iff.1 (by have := hC.few; omega))) | refine zce rfl ?_ | refine zbc rfl rfl (by omega) ?_ | refine zbu rfl ?_ | refine zae 3 rfl rfl rfl rfl rfl rfl rfl ?_) | refine zch ?_)
    exact run_nil (leaves_nil (ends_pack [0, 1, 1, 1] rfl (ends_none rfl ⟨rfl, ⟨m, a, c, h⟩, s', 0, rfl, rfl, by decide, hC⟩)))
  rw [if_neg c2] at hl'
  by_cases c3 : d % 4 = 3
  · rw [if_pos c3] at hl'
    repeat (first | refine zck ?_ | refine zcl ?_ | refine zcm ?_ | refine zcn ?_)
    first | refine zcp (by kernel_rfl) ?_ | refine zcq PP_mixed (by kernel_rfl) (by kernel_rfl) ?_
    repeat' (refine zap rfl ?_; first | refine zan rfl ?_ | refine zbd rfl rfl (by omega) ?_)
    all_goals refine zch ?_
    all_goals repeat (first | refine zck ?_ | refine zcl ?_ | refine zcm ?_ | refine zcn ?_)
    refine zcj rfl ?_
    repeat (first | refine zck ?_ | refine zcl ?_ | refine zcm ?_ | refine zcn ?_)
    first | refine zcp (by kernel_rfl) ?_ | refine zcq PP_mixed (by kernel_rfl) (by kernel_rfl) ?_
    repeat' (refine zap rfl ?_; first | refine zan rfl ?_ | refine zbc rfl rfl (by omega) ?_)
    all_goals refine zch ?_
    all_goals repeat (first | refine zck ?_ | refine zcl ?_ | refine zcm ?_ | refine zcn ?_)
    refine zci rfl ?_
    repeat (first | refine zck ?_ | refine zcl ?_ | refine zcm ?_ | refine zcn ?_)
    first | refine zcp (by kernel_rfl) ?_ | refine zcq PP_mixed (by kernel_rfl) (by kernel_rfl) ?_
    repeat' (refine zap rfl ?_; first | refine zad rfl hmc rfl ?_ | refine zan rfl ?_ | refine zan rfl ?_ | refine zab 0 rfl rfl rfl ?_ | (refine reg_callO [2] hC ((tI K).bd_drop hT n (hsI n)) (h.drop hK n) (by omega) (trDrop w0 p (tI K) hT tI_isI n) rfl rfl rfl sub_nil ?_; rintro x s' m' ⟨rfl, hM⟩ hC) | refine zao rfl ?_ | refine zan rfl ?_)
    all_goals refine zch ?_
    all_goals repeat (first | refine zck ?_ | refine zcl ?_ | refine zcm ?_ | refine zcn ?_)
    repeat (first | refine zck ?_ | refine zcl ?_ | refine zcm ?_ | refine zcn ?_)
    first | refine zcp (by kernel_rfl) ?_ | refine zcq PP_mixed (by kernel_rfl) (by kernel_rfl) ?_
    repeat' (refine zap rfl ?_; first | refine zad rfl hmi rfl ?_ | refine zbx rfl ?_)
    all_goals refine zch ?_
    all_goals repeat (first | refine zck ?_ | refine zcl ?_ | refine zcm ?_ | refine zcn ?_)
    refine zcj rfl ?_
    repeat (first | refine zck ?_ | refine zcl ?_ | refine zcm ?_ | refine zcn ?_)
    first | refine zcp (by kernel_rfl) ?_ | refine zcq PP_mixed (by kernel_rfl) (by kernel_rfl) ?_
    repeat' (refine zap rfl ?_; first | refine reg_eqBT rfl rfl ?_ | refine zbc rfl rfl (by dsimp only) ?_ | refine zad rfl hma rfl ?_ | refine zad rfl hmh rfl ?_ | refine zaj rfl ?_ | refine zan rfl ?_ | refine zbu rfl ?_ | refine zae 2 rfl rfl rfl rfl rfl rfl rfl ?_)
    all_goals refine zch ?_
    all_goals repeat (first | refine zck ?_ | refine zcl ?_ | refine zcm ?_ | refine zcn ?_)
    by_cases hf : (rfind l n).2 = true
    · have hD := rfDrop1 w0 sh' a c l hR (by omega) n hf
      subst hl'
      repeat' (first | refine zcp (by kernel_rfl) ?_ | refine zcn ?_ | (refine zap rfl ?_; first | refine zad rfl hmm rfl ?_ | refine zab 1 rfl rfl rfl ?_ | (refine zai [] hD rfl rfl rfl (fun _ h => h) ?_; rintro v Γ' ⟨a1, c1, rfl, rfl⟩) | refine zao rfl ?_ | refine zae 2 rfl rfl rfl rfl rfl rfl rfl ?_) | refine zch ?_)
      refine run_exch 0 _ rfl (LstE.ofSl (encT_len _) rfl) rfl ?_
      exact run_nil (leaves_nil (ends_pack [1, 1, 1, 0] rfl (ends_none rfl ⟨rfl, ⟨_, a1, c1, hM⟩, s', _, rfl, rfl, by decide, hC⟩)))
    · have hf : (rfind l n).2 = false := by simpa using hf
      have hD := rfDrop0 w0 sh' a c l hR (by omega) n hf
      have e : rdrop l n = l := by unfold rdrop; rw [hf, if_neg (by decide)]
      rw [e] at hl' hM
      subst hl'
      repeat' (first | refine zcp (by kernel_rfl) ?_ | refine zcn ?_ | (refine zap rfl ?_; first | refine zad rfl hmm rfl ?_ | refine zab 1 rfl rfl rfl ?_ | refine zah [] hD rfl rfl rfl (fun _ h => h) rfl ?_ | refine zao rfl ?_ | refine zae 1 rfl rfl rfl rfl rfl rfl rfl ?_) | refine zch ?_)
      exact run_nil (leaves_nil (ends_pack [0, 0, 0, 0] rfl (ends_none rfl ⟨rfl, ⟨_, a, c, hM⟩, s', _, rfl, rfl, by decide, hC⟩)))
  rw [if_neg c3] at hl'
  have hPut := rfPut w0 sh' a c l hR (by omega) ⟨n, hsI n, v⟩
  have hpl := rput_len l ⟨n, hsI n, v⟩
  have hH := trHash w0 n
  have hh0 : ∀ x ∈ rput l ⟨n, hsI n, v⟩, 0 ≤ x.h := rput_hh (fun x hx => (h.hh x hx).2.2) (hsI_in n).1
  repeat (first | refine zck ?_ | refine zcl ?_ | refine zcm ?_ | refine zcn ?_)
  first | refine zcp (by kernel_rfl) ?_ | refine zcq PP_mixed (by kernel_rfl) (by kernel_rfl) ?_
  repeat' (refine zap rfl ?_; first | refine zan rfl ?_ | refine zbd rfl rfl (by omega) ?_)
  all_goals refine zch ?_
  all_goals repeat (first | refine zck ?_ | refine zcl ?_ | refine zcm ?_ | refine zcn ?_)
  refine zcj rfl ?_
  repeat (first | refine zck ?_ | refine zcl ?_ | refine zcm ?_ | refine zcn ?_)
  first | refine zcp (by kernel_rfl) ?_ | refine zcq PP_mixed (by kernel_rfl) (by kernel_rfl) ?_
  repeat' (refine zap rfl ?_; first | refine zan rfl ?_ | refine zbd rfl rfl (by omega) ?_)
  all_goals refine zch ?_
  all_goals repeat (first | refine zck ?_ | refine zcl ?_ | refine zcm ?_ | refine zcn ?_)
  refine zcj rfl ?_
  repeat (first | refine zck ?_ | refine zcl ?_ | refine zcm ?_ | refine zcn ?_)
  first | refine zcp (by kernel_rfl) ?_ | refine zcq PP_mixed (by kernel_rfl) (by kernel_rfl) ?_
  repeat' (refine zap rfl ?_; first | refine zad rfl hmc rfl ?_ | refine zan rfl ?_ | refine zan rfl ?_ | refine zab 0 rfl rfl rfl ?_ | (refine reg_callO [2] hC ((tI K).bd_put n (hsI n) v) (h.put hK n v ⟨rfl, (hsI_in n).1⟩) (by omega) (trPut w0 p (tI K) hT tI_isI n v) rfl rfl rfl sub_nil ?_; rintro x s' m' hx hC) | refine zao rfl ?_ | refine zan rfl ?_)
  all_goals refine zch ?_
  all_goals repeat (first | refine zck ?_ | refine zcl ?_ | refine zcm ?_ | refine zcn ?_)
  repeat (first | refine zck ?_ | refine zcl ?_ | refine zcm ?_ | refine zcn ?_)
  first | refine zcp (by kernel_rfl) ?_ | refine zcq PP_mixed (by kernel_rfl) (by kernel_rfl) ?_
  repeat' (refine zap rfl ?_; first | refine zad rfl hmi rfl ?_ | refine zbx rfl ?_)
  all_goals refine zch ?_
  all_goals repeat (first | refine zck ?_ | refine zcl ?_ | refine zcm ?_ | refine zcn ?_)
  refine zcj rfl ?_
  refine zcm ?_
  repeat refine zck ?_
  obtain ⟨⟨x1, x2⟩, x3⟩ := x
  refine run_bind_eq2 (σ := Option Addr × Nat) (l' := fun st => [(0, spP p), (2, ptr xb), (3, ptr ab), (4, ptr hb), (5, ptr ob), (14, .int .i64 x1), (15, .bool x2), (16, .int .i64 x3), (17, .slice st.1 (rput l ⟨n, hsI n, v⟩).length st.2)])
    (Γ' := fun st => [SlA 94 3 st.1 (rput l ⟨n, hsI n, v⟩).length st.2 ((rput l ⟨n, hsI n, v⟩).flatMap encT), SpaceA p s', okB ob true, stB xb wb K a c l]) ?_ (fun st junk => ?_)
  · refine run_share_keep [1] rfl ?_
    repeat (first | refine zck ?_ | refine zcl ?_ | refine zcm ?_ | refine zcn ?_)
    first | refine zcp (by kernel_rfl) ?_ | refine zcq PP_mixed (by kernel_rfl) (by kernel_rfl) ?_
    repeat' (refine zap rfl ?_; first | refine zad rfl (HM _ (fun _ h => .tail _ h) _ _ hcb) rfl ?_ | refine zad rfl (HM _ (fun _ h => .tail _ h) _ _ hmb) rfl ?_ | refine zan rfl ?_ | refine zaa 0 rfl rfl rfl ?_ | refine reg_invokeE [] hH rfl rfl rfl sub_nil rfl ?_ | (refine zai [] hPut rfl rfl rfl (fun _ h => .tail _ h) ?_; rintro v' Γ' ⟨a1, c1, rfl, rfl⟩) | refine zao rfl ?_ | refine zcb rfl ?_)
    all_goals refine zch ?_
    all_goals repeat (first | refine zck ?_ | refine zcl ?_ | refine zcm ?_ | refine zcn ?_)
    exact run_nil (show _ ∧ ∃ _, _ ∧ _ from ⟨rfl, (a1, c1), ⟨rfl, rfl, rfl, rfl, rfl, rfl, rfl, rfl, rfl, trivial⟩, rfl⟩)
  obtain ⟨a1, c1⟩ := st
  dsimp only
  refine run_exch 0 _ rfl (LstE.ofSl (encT_len _) rfl) rfl ?_
  refine run_lendE [0] rfl fun sh2 hi2 hR2 => ?_
  have hNd := rfNodes w0 sh2 a1 c1 _ hR2 (by omega) hh0
  repeat refine zck ?_
  by_cases hfull : (rnodes (rput l ⟨n, hsI n, v⟩) : Int) ≤ K
  · rw [if_pos hfull] at hl'
    subst hl'
    replace hx := hx.resolve_right (fun ⟨_, e, _⟩ => by omega)
    obtain ⟨e, _, hM⟩ := hx
    cases e
    refine run_bind_eq (l' := [(0, spP p), (2, ptr xb), (3, ptr ab), (4, ptr hb), (5, ptr ob), (14, .int .i64 (wasL l n)), (15, .bool (rfind l n).2), (16, .int .i64 0), (17, .slice a1 (rput l ⟨n, hsI n, v⟩).length c1), (64, .bool false)]) (Γ' := [SpaceA p s', okB ob true, stB xb wb K a c l]) ?_ (fun junk => ?_)
    · refine run_share_keep [2] rfl ?_
      repeat (first | refine zck ?_ | refine zcl ?_ | refine zcm ?_ | refine zcn ?_)
      first | refine zcp (by kernel_rfl) ?_ | refine zcq PP_mixed (by kernel_rfl) (by kernel_rfl) ?_
      repeat' (refine zap rfl ?_; first | refine zan rfl ?_ | refine zaa 0 rfl rfl rfl ?_ | refine zah [] hNd rfl rfl rfl (fun _ h => .tail _ h) rfl ?_ | refine zao rfl ?_ | refine zbl rfl rfl (by omega) ?_)
      all_goals refine zch ?_
      all_goals repeat (first | refine zck ?_ | refine zcl ?_ | refine zcm ?_ | refine zcn ?_)
      exact run_nil (show _ ∧ _ ∧ _ from ⟨rfl, ⟨rfl, rfl, rfl, rfl, rfl, rfl, rfl, rfl, rfl, rfl, trivial⟩, rfl⟩)
    repeat' (first | refine zck ?_ | refine zcp (by kernel_rfl) ?_ | refine zcm ?_ | refine zcn ?_ | (refine zap rfl ?_; first | refine reg_eqBT rfl rfl ?_ | refine zbc rfl rfl (by dsimp only) ?_ | refine zad rfl (HM _ hi2 _ _ hab) rfl ?_ | refine zad rfl (HM _ hi2 _ _ hhb) rfl ?_ | refine zaj rfl ?_ | refine zan rfl ?_ | refine zao rfl ?_ | refine zbu rfl ?_ | refine zae 1 rfl rfl rfl rfl rfl rfl rfl ?_ | refine zae 2 rfl rfl rfl rfl rfl rfl rfl ?_) | refine zch ?_ | refine zcj rfl ?_)
    exact run_nil (leaves_nil (ends_pack [0, 1, 0, 0] rfl (ends_none rfl ⟨rfl, ⟨_, a1, c1, hM⟩, s', _, rfl, rfl, by decide, hC⟩)))
  · rw [if_neg hfull] at hl'
    subst hl'
    rcases hx with ⟨_, e, _⟩ | ⟨e, _, em⟩
    · exact absurd e hfull
    cases e
    rw [em] at hC
    refine run_bind_eq (l' := [(0, spP p), (2, ptr xb), (3, ptr ab), (4, ptr hb), (5, ptr ob), (14, .int .i64 0), (15, .bool false), (16, .int .i64 9), (17, .slice a1 (rput l ⟨n, hsI n, v⟩).length c1), (64, .bool true)]) (Γ' := [SpaceA p s', okB ob true, stB xb wb K a c l]) ?_ (fun junk => ?_)
    · refine run_share_keep [2] rfl ?_
      repeat (first | refine zck ?_ | refine zcl ?_ | refine zcm ?_ | refine zcn ?_)
      first | refine zcp (by kernel_rfl) ?_ | refine zcq PP_mixed (by kernel_rfl) (by kernel_rfl) ?_
      repeat' (refine zap rfl ?_; first | refine zan rfl ?_ | refine zaa 0 rfl rfl rfl ?_ | refine zah [] hNd rfl rfl rfl (fun _ h => .tail _ h) rfl ?_ | refine zao rfl ?_ | refine zbk rfl rfl (by omega) ?_)
      all_goals refine zch ?_
      all_goals repeat (first | refine zck ?_ | refine zcl ?_ | refine zcm ?_ | refine zcn ?_)
      exact run_nil (show _ ∧ _ ∧ _ from ⟨rfl, ⟨rfl, rfl, rfl, rfl, rfl, rfl, rfl, rfl, rfl, rfl, trivial⟩, rfl⟩)
    repeat' (first | refine zck ?_ | refine zcp (by kernel_rfl) ?_ | (refine zap rfl ?_; first | refine zaj rfl ?_ | refine zan rfl ?_ | refine zbc rfl rfl (by omega) ?_ | refine zbx rfl ?_ | refine zbu rfl ?_ | refine zae 1 rfl rfl rfl rfl rfl rfl rfl ?_) | refine zch ?_ | refine zci rfl ?_)
    exact run_ret (leaves_nil (ends_pack [0, 1, 0, 1] rfl (ends_none rfl ⟨rfl, ⟨_, a, c, h⟩, s', _, rfl, rfl, by decide, hC⟩)))
end
end Go.Proofs.YtloekplbhknepaaGreat

namespace Go.Proofs.YtloekplbhknepaaGreat
open Go.Vc Sim
set_option maxHeartbeats 8000000
abbrev stT (wb : Nat) (K : Int) (a : Option Addr) (c : Nat) (l : List Ri) : Value := .agg (List.toArray (stC wb K a c l))
abbrev wdA (wb : Nat) (kn : List (Int × Wd)) : Asn := pt wb (mapI (knM kn))
section
variable {K : Int} {m : Int → Int} {l : List Ri}
theorem step_spec (w0 : World) (sh : Shared) (wb : Nat) (hK : 0 ≤ K ∧ K ≤ 60) (a : Option Addr) (c : Nat) (kn : List (Int × Wd)) (N : Int) (hN : N ≤ 1000000) (hW : WM 544 N kn m) (h : TOk K hsI (fun _ => true) m l) (d n v : Int) (hd : 0 ≤ d ∧ d ≤ 255) (l' : List Ri) (hl' : stepL K hsI l d n v = l') :
    Vc.Fn PP w0 sh 37 [stT wb K a c l, .agg (List.toArray [.int .u8 d, .int .i64 n, .int .i64 v])] [wdA wb kn, LstT a c l]
      (fun v Γ => ∃ (st : Ts K l') (nb : Nat) (kn2 : List (Int × Wd)), v = .tuple #[stT nb K st.a st.c l', .bool true] ∧ Γ = [wdA nb kn2, LstT st.a st.c l'] ∧ WM 544 (N + 1) kn2 st.m) := by
  have hlen := (h.few hK).2.2
  refine fn_of_run en37 fn37 rfl rfl rfl ?_
  repeat (first | refine zck ?_ | refine zcl ?_ | refine zcm ?_ | refine zcn ?_)
  first | refine zcp (by kernel_rfl) ?_ | refine zcq PP_mixed (by kernel_rfl) (by kernel_rfl) ?_
  repeat' (refine zap rfl ?_; first | refine zan rfl ?_ | refine zaq (cs := [_, _, _]) rfl (fun nb => ?_) | refine zaq (cs := [_, _, _, _, _, _, _]) rfl (fun nb => ?_) | refine zar (fun nb => ?_))
  all_goals refine zch ?_
  all_goals repeat (first | refine zck ?_ | refine zcl ?_ | refine zcm ?_ | refine zcn ?_)
  rename_i xb cb
  revert nb; intro rb
  refine run_share [3] rfl ?_
  repeat (first | refine zck ?_ | refine zcl ?_ | refine zcm ?_ | refine zcn ?_)
  first | refine zcp (by kernel_rfl) ?_ | refine zcq PP_mixed (by kernel_rfl) (by kernel_rfl) ?_
  repeat' (refine zap rfl ?_; first | refine zae 4 rfl rfl rfl rfl rfl rfl rfl ?_ | refine zar (fun nb => ?_))
  all_goals refine zch ?_
  all_goals repeat (first | refine zck ?_ | refine zcl ?_ | refine zcm ?_ | refine zcn ?_)
  revert nb; intro ob
  repeat (first | refine zck ?_ | refine zcl ?_ | refine zcm ?_ | refine zcn ?_)
  first | refine zcp (by kernel_rfl) ?_ | refine zcq PP_mixed (by kernel_rfl) (by kernel_rfl) ?_
  repeat' (refine zap rfl ?_; first | refine zae 6 rfl rfl rfl rfl rfl rfl rfl ?_ | refine zan rfl ?_ | refine zaa 0 rfl rfl rfl ?_ | refine zab 2 rfl rfl rfl ?_ | refine reg_invokeE [] (trNum w0 n) rfl rfl rfl sub_nil rfl ?_ | refine zao rfl ?_ | refine zan rfl ?_ | refine zae 5 rfl rfl rfl rfl rfl rfl rfl ?_ | refine zar (fun nb => ?_))
  all_goals refine zch ?_
  all_goals repeat (first | refine zck ?_ | refine zcl ?_ | refine zcm ?_ | refine zcn ?_)
  rename_i mb
  revert nb; intro ib
  refine run_bind_eq2 (σ := Nat) (l' := fun hb => [(2, ptr xb), (3, ptr cb), (4, ptr rb), (6, ptr ob), (7, ptr mb), (8, ptr ib), (9, .int .i64 ((rfind l n).1 : Nat)), (10, ptr hb)])
    (Γ' := fun hb => [wdA wb kn, stB xb wb K a c l, pt rb (.cells (List.toArray [.map none, .nilIface, .int .i64 0, .int .i64 0, .int .i64 0, .int .i64 0, .slice none 0 0]) 35 (0, 0)), okB ob true, pt mb (intC n), pt ib (boolC true), pt hb (boolC (rfind l n).2), LstT a c l]) ?_ (fun hb junk => ?_)
  · refine run_lendE [1] rfl fun sh' hi hR => ?_
    repeat (first | refine zck ?_ | refine zcl ?_ | refine zcm ?_ | refine zcn ?_)
    first | refine zcp (by kernel_rfl) ?_ | refine zcq PP_mixed (by kernel_rfl) (by kernel_rfl) ?_
    repeat' (refine zap rfl ?_; first | refine zae 6 rfl rfl rfl rfl rfl rfl rfl ?_ | refine zan rfl ?_ | refine zan rfl ?_ | refine zab 1 rfl rfl rfl ?_ | refine zab 4 rfl rfl rfl ?_ | refine zah [] (rfFind w0 sh' a c l hR (by omega) n) rfl rfl rfl (fun _ h => h) rfl ?_ | refine zao rfl ?_ | refine zan rfl ?_ | refine zar (fun nb => ?_))
    all_goals refine zch ?_
    all_goals repeat (first | refine zck ?_ | refine zcl ?_ | refine zcm ?_ | refine zcn ?_)
    exact run_nil (show _ ∧ ∃ _, _ ∧ _ from ⟨rfl, nb, ⟨rfl, rfl, rfl, rfl, rfl, rfl, rfl, rfl, trivial⟩, rfl⟩)
  have hlk := rfind_le n l
  have hwas : wasL l n = if (rfind l n).2 = true then (match l[(rfind l n).1]? with | some x => x.v | none => 0) else 0 := rfl
  repeat refine zck ?_
  refine run_bind_eq (l' := [(2, ptr xb), (3, ptr cb), (4, ptr rb), (6, ptr ob), (7, ptr mb), (8, ptr ib), (9, .int .i64 ((rfind l n).1 : Nat)), (10, ptr hb)])
    (Γ' := [wdA wb kn, stB xb wb K a c l, pt rb (.cells (List.toArray [.map none, .nilIface, .int .i64 0, .int .i64 0, .int .i64 0, .int .i64 0, .slice none 0 0]) 35 (0, 0)), okB ob true, pt mb (intC n), pt ib (boolC true), pt hb (boolC (rfind l n).2), LstT a c l]) ?_ (fun junk => ?_)
  · cases hf : (rfind l n).2 with
    | true =>
      repeat (first | refine zck ?_ | refine zcl ?_ | refine zcm ?_ | refine zcn ?_)
      first | refine zcp (by kernel_rfl) ?_ | refine zcq PP_mixed (by kernel_rfl) (by kernel_rfl) ?_
      repeat' (refine zap rfl ?_; first | refine zab 6 rfl rfl rfl ?_ | refine zae 6 rfl rfl rfl rfl rfl rfl rfl ?_ | refine zaj rfl ?_ | refine zan rfl ?_ | refine zab 5 rfl rfl rfl ?_ | refine zbu rfl ?_)
      all_goals refine zch ?_
      all_goals repeat (first | refine zck ?_ | refine zcl ?_ | refine zcm ?_ | refine zcn ?_)
      exact run_nil (show _ ∧ _ ∧ _ from ⟨rfl, ⟨rfl, rfl, rfl, rfl, rfl, rfl, rfl, rfl, trivial⟩, rfl⟩)
    | false =>
      repeat (first | refine zck ?_ | refine zcl ?_ | refine zcm ?_ | refine zcn ?_)
      first | refine zcp (by kernel_rfl) ?_ | refine zcq PP_mixed (by kernel_rfl) (by kernel_rfl) ?_
      repeat' (refine zap rfl ?_; first | refine zab 6 rfl rfl rfl ?_ | refine zae 6 rfl rfl rfl rfl rfl rfl rfl ?_ | refine zak rfl ?_ | refine zan rfl ?_ | refine zbv rfl ?_)
      all_goals refine zch ?_
      all_goals repeat (first | refine zck ?_ | refine zcl ?_ | refine zcm ?_ | refine zcn ?_)
      exact run_nil (show _ ∧ _ ∧ _ from ⟨rfl, ⟨rfl, rfl, rfl, rfl, rfl, rfl, rfl, rfl, trivial⟩, rfl⟩)
  refine run_share [4] rfl ?_
  refine run_share [4] rfl ?_
  refine run_share [4] rfl ?_
  repeat (first | refine zck ?_ | refine zcl ?_ | refine zcm ?_ | refine zcn ?_)
  first | refine zcp (by kernel_rfl) ?_ | refine zcq PP_mixed (by kernel_rfl) (by kernel_rfl) ?_
  repeat' (refine zap rfl ?_; first | refine zae 5 rfl rfl rfl rfl rfl rfl rfl ?_ | refine zar (fun nb => ?_))
  all_goals refine zch ?_
  all_goals repeat (first | refine zck ?_ | refine zcl ?_ | refine zcm ?_ | refine zcn ?_)
  revert nb; intro ab
  refine run_take [0, 0, 0, 0, 1, 0] rfl ?_
  repeat (first | refine zck ?_ | refine zcl ?_ | refine zcm ?_ | refine zcn ?_)
  first | refine zcp (by kernel_rfl) ?_ | refine zcq PP_mixed (by kernel_rfl) (by kernel_rfl) ?_
  repeat' (refine zap rfl ?_; first | refine zaa 0 rfl rfl rfl ?_)
  all_goals refine zch ?_
  all_goals repeat (first | refine zck ?_ | refine zcl ?_ | refine zcm ?_ | refine zcn ?_)
  repeat refine zck ?_
  refine run_bind_eq (l' := [(2, ptr xb), (3, ptr cb), (4, ptr rb), (6, ptr ob), (7, ptr mb), (8, ptr ib), (10, ptr hb), (11, ptr ab)])
    (Γ' := [wdA wb kn, stB xb wb K a c l, pt rb (.cells (List.toArray [.map none, .nilIface, .int .i64 0, .int .i64 0, .int .i64 0, .int .i64 0, .slice none 0 0]) 35 (0, 0)), okB ob true, pt ab (intC (wasL l n)), LstT a c l]) ?_ (fun junk => ?_)
  · cases hf : (rfind l n).2 with
    | true =>
      rw [hf, if_pos rfl] at hwas
      have hlt := hlk.2 hf
      have hx : l[(rfind l n).1]? = some l[(rfind l n).1] := List.getElem?_eq_getElem hlt
      rw [hx] at hwas
      dsimp only at hwas
      generalize l[(rfind l n).1] = x at hx hwas
      refine run_lendE [5] rfl fun sh' hi hR => ?_
      obtain ⟨b, off, cc, TT, fr, rfl, hh, _, hcx⟩ := hR.cells hx
      have hc2 := hcx 2 _ rfl
      refine zci rfl ?_
      repeat (first | refine zck ?_ | refine zcl ?_ | refine zcm ?_ | refine zcn ?_)
      first | refine zcp (by kernel_rfl) ?_ | refine zcq PP_mixed (by kernel_rfl) (by kernel_rfl) ?_
      repeat' (refine zap rfl ?_; first | refine zad rfl hh (hc2 _ (by omega)) ?_ | refine zan rfl ?_ | refine zab 1 rfl rfl rfl ?_ | refine zao rfl ?_ | refine zae 4 rfl rfl rfl rfl rfl rfl rfl ?_ | refine zas rfl rfl (by omega) ?_)
      all_goals refine zch ?_
      all_goals repeat (first | refine zck ?_ | refine zcl ?_ | refine zcm ?_ | refine zcn ?_)
      rw [hwas]
      exact run_nil (show _ ∧ _ ∧ _ from ⟨rfl, ⟨rfl, rfl, rfl, rfl, rfl, rfl, rfl, rfl, trivial⟩, rfl⟩)
    | false =>
      rw [hf, if_neg (by decide)] at hwas
      rw [hwas]
      refine zcj rfl ?_
      refine zcm ?_
      exact run_nil (show _ ∧ _ ∧ _ from ⟨rfl, ⟨rfl, rfl, rfl, rfl, rfl, rfl, rfl, rfl, trivial⟩, rfl⟩)
  refine run_share [4] rfl ?_
  have hD := (done_mem (σ := Ts K l') w0 ((ab, intC (wasL l n)) :: (hb, boolC (rfind l n).2) :: (ib, boolC true) :: (mb, intC n) :: (cb, clC d n v) :: sh) wb kn 544 N m hN hW 66 (List.toArray [ptr cb, ptr xb, ptr ab, ptr hb, ptr ob, ptr ib, ptr mb]) (StarsA [stB xb wb K a c l, okB ob true, LstT a c l]) (fun st => StarsA [stB xb wb K st.a st.c l', okB ob true, LstT st.a st.c l']) (fun st => st.m)
    (fun p s hC _ => (step1_spec w0 _ p cb xb ab hb ob ib mb wb hK a c s hC h d n v hd (.tail _ (.tail _ (.tail _ (.tail _ (.head _))))) (.head _) (.tail _ (.head _)) (.tail _ (.tail _ (.head _))) (.tail _ (.tail _ (.tail _ (.head _)))) l' hl').mono (fun v Γ ⟨st, s', j, e1, e2, e3, e4⟩ => ⟨st, s', j, e1, e2, e3, e4⟩))).unpack
    (R' := fun v Γ => ∃ (st : Ts K l') (nb : Nat) (a : Option Addr) (len c : Nat) (kn2 : List (Int × Wd)), v = .tuple #[.map (some nb), .slice a len c, .bool true] ∧ Γ = [wdA nb kn2, stB xb wb K st.a st.c l', okB ob true, LstT st.a st.c l'] ∧ WM 544 (N + 1) kn2 st.m)
    (fun v Γ ⟨st, nb, a, len, c, kn2, e1, e2, e3⟩ => ⟨_, _, e2, st, nb, a, len, c, kn2, e1, rfl, e3⟩)
  refine run_share [0] rfl ?_
  repeat (first | refine zck ?_ | refine zcl ?_ | refine zcm ?_ | refine zcn ?_)
  first | refine zcp (by kernel_rfl) ?_ | refine zcq PP_mixed (by kernel_rfl) (by kernel_rfl) ?_
  repeat' (refine zap rfl ?_; first | refine zan rfl ?_ | refine zan rfl ?_ | refine zab 0 rfl rfl rfl ?_ | (refine zai [0, 1, 1] hD rfl rfl rfl (fun _ h => h) ?_; rintro v Γ' ⟨st, nb, wa, wl, wc, kn2, rfl, rfl, hW2⟩) | refine zao rfl ?_ | refine zan rfl ?_ | refine zan rfl ?_)
  all_goals refine zch ?_
  all_goals repeat (first | refine zck ?_ | refine zcl ?_ | refine zcm ?_ | refine zcn ?_)
  repeat' (first | refine zck ?_ | refine zcp (by kernel_rfl) ?_ | (refine zap rfl ?_; first | refine zaj rfl ?_ | refine zan rfl ?_ | refine zan rfl ?_ | refine zab 1 rfl rfl rfl ?_ | refine zab 2 rfl rfl rfl ?_ | refine zao rfl ?_ | refine zbu rfl ?_ | refine zae 1 rfl rfl rfl rfl rfl rfl rfl ?_ | refine zae 4 rfl rfl rfl rfl rfl rfl rfl ?_) | refine zch ?_)
  exact run_ret (leaves_nil (ends_take [0, 2] rfl (ends_two rfl (resOk_pt 4 rfl rfl rfl) rfl ⟨rfl, st, nb, kn2, rfl, rfl, hW2⟩)))
end
end Go.Proofs.YtloekplbhknepaaGreat

namespace Go.Proofs.YtloekplbhknepaaGreat
open Go.Vc Sim
set_option maxHeartbeats 8000000
section
variable {w0 : World} {n : Nat} {sh shf : Shared} {Q : Exit → Env → List Deferred → List Asn → Prop} {k : List Item} {ρ : Env} {df : List Deferred} {Γ Γ0 Γr : List Asn}
variable {ops : Array Oper} {l : List (Fl × Nat × Oper)} {i : Nat} {ty : TypeId} {pos : String} {aft : Array Edge} {dst : Option Tmp}
variable {f : FuncId} {args : List Value} {fo : Operand} {cargs : Array Operand} {ats : Array TypeId} {first cap : Array Value}
theorem reg_callOX (is : List Nat) {α : Type} {N : Int} {g : Pg α} {s0 s : Sp} {m : Int → Int} {j q p : Nat} {RR : α → Value → List Asn → Prop} {R : α → (Int → Int) → Prop} (hC : Cu N s0 s m j) (hB : Pg.Bd q g) (hO : Pg.Ok N g m R) (hj : j + q ≤ 50000) (spec : FnX w0 shf f args p g Γ0 RR)
    (hfo : ev ρ fo = .func (.func f) first cap) (hargs : first.toList ++ cargs.toList.map (ev ρ) ++ cap.toList = args)
    (hp : pick is Γ = some (SpaceA p s :: Γ0, Γr)) (hsh : ∀ p ∈ shf, p ∈ sh) (h : ∀ x s' m' v Γ1, R x m' → Cu N s0 s' m' (j + q) → RR x v Γ1 → Reg PP w0 n sh Q ops l k (ρ.setO dst v) df (SpaceA p s' :: Γ1 ++ Γr)) :
    Reg PP w0 n sh Q ops ((Fl.loud, i, ⟨dst, .call ⟨.value fo, cargs, ats⟩, ty, pos, aft, none⟩) :: l) k ρ df Γ := by
  obtain ⟨h1, m', h2, h3⟩ := hC.run hB hj hO
  exact zai is (spec s h1) hfo hargs hp hsh (fun v Γ' ⟨Γ1, e1, e2⟩ => by subst e1; exact h _ _ m' v Γ1 h3 h2 e2)
end
section
variable {K : Int} {m : Int → Int} {l : List Ri}
theorem is1_spec (w0 : World) (sh : Shared) (p xb ob wb : Nat) (hK : 0 ≤ K ∧ K ≤ 60) (a : Option Addr) (c : Nat) (s : Sp) (hC : Cu 544 s s m 0) (h : TOk K hsI (fun _ => true) m l) (hxb : (xb, .cells (List.toArray (stC wb K a c l)) 35 (0, 0)) ∈ sh) (hR : RdSl w0 sh encT 3 (.slice a l.length c) l) :
    Vc.Fn PP w0 sh 71 [spP p, ptr xb, ptr ob] [SpaceA p s, okB ob true]
      (fun v Γ => ∃ (s' : Sp), v = .tuple #[] ∧ Γ = [SpaceA p s', okB ob true] ∧ Cu 544 s s' m 0) := by
  have hT := tI_ok hK
  have hlen := (h.few hK).2.2
  have hh0 : ∀ x ∈ l, 0 ≤ x.h := fun x hx => (h.hh x hx).2.2
  have hmx : ∀ hF Γ w, Sh sh hF → St w0 hF Γ w → w.heap[xb]? = some (.cells (List.toArray (stC wb K a c l)) 35 (0, 0)) := fun hF Γ w h1 h2 => (h2.frame (h1 _ hxb)).2
  have hNd := rfNodes w0 sh a c l hR (by omega) hh0
  have hL : (l.map fun x : Ri => (x.n, x.v)).length = l.length := List.length_map _
  refine fn_of_run en71 fn71 rfl rfl rfl ?_
  repeat (first | refine zck ?_ | refine zcl ?_ | refine zcm ?_ | refine zcn ?_)
  first | refine zcp (by kernel_rfl) ?_ | refine zcq PP_mixed (by kernel_rfl) (by kernel_rfl) ?_
  repeat' (refine zap rfl ?_; first | refine zad rfl hmx rfl ?_ | refine zan rfl ?_ | refine zan rfl ?_ | (refine reg_callOX [0] hC (bd_walkS (tI K)) (walkS_ok hK h) (by omega) (trWalk w0 p (tI K) hT) rfl rfl rfl sub_nil ?_; rintro x s1 m1 v Γ1 ⟨rfl, em⟩ hC ⟨a1, c1, a2, c2, rfl, rfl⟩; rw [em] at hC) | refine zao rfl ?_ | refine zan rfl ?_)
  all_goals refine zch ?_
  all_goals repeat (first | refine zck ?_ | refine zcl ?_ | refine zcm ?_ | refine zcn ?_)
  rw [hL]
  refine run_shareV [1] rfl fun sh' hi hk1 hr1 => ?_
  refine run_shareV [1] rfl fun sh2 hi2 hk2 hr2 => ?_
  have hmx2 : ∀ hF Γ w, Sh sh2 hF → St w0 hF Γ w → w.heap[xb]? = some (.cells (List.toArray (stC wb K a c l)) 35 (0, 0)) := fun hF Γ w h1 h2 => (h2.frame (h1 _ (hi2 _ (hi _ hxb)))).2
  have hNd := hNd.share (fun p hp => hi2 _ (hi _ hp))
  repeat (first | refine zck ?_ | refine zcl ?_ | refine zcm ?_ | refine zcn ?_)
  first | refine zcp (by kernel_rfl) ?_ | refine zcq PP_mixed (by kernel_rfl) (by kernel_rfl) ?_
  repeat' (refine zap rfl ?_; first | refine zad rfl hmx2 rfl ?_ | refine zaj rfl ?_ | refine zan rfl ?_ | (refine reg_callO [0] hC (Pg.bd_gt0 17) h.len (by omega) (trLen w0 p (tI K) hT) rfl rfl rfl sub_nil ?_; rintro x s1 m1 ⟨rfl, em⟩ hC; rw [em] at hC) | (refine reg_callO [0] hC (Pg.bd_gt0 23) h.nod (by omega) (getG w0 p 23) rfl rfl rfl sub_nil ?_; rintro x s3 m3 ⟨rfl, em⟩ hC; rw [em] at hC) | refine zah [] hNd rfl rfl rfl (fun _ h => h) rfl ?_ | refine zce rfl ?_ | refine zao rfl ?_ | refine zbc rfl rfl (by omega) ?_ | refine zbu rfl ?_ | refine zae 1 rfl rfl rfl rfl rfl rfl rfl ?_)
  all_goals refine zch ?_
  all_goals repeat (first | refine zck ?_ | refine zcl ?_ | refine zcm ?_ | refine zcn ?_)
  have hR2 : RdSl w0 sh2 encT 3 (.slice a l.length c) l := hR.mono (fun p hp => hi2 _ (hi _ hp))
  have hr1' : ∀ (j : Nat) (x : Ri), l[j]? = some x → ∃ bb c T fr, a1 = some ⟨bb, 0, none⟩ ∧ (∀ hF Γ w, Sh sh2 hF → St w0 hF Γ w → w.heap[bb]? = some (.cells c T fr)) ∧ c[j]? = some (.int .i64 x.n) := fun j x hx => by
    obtain ⟨bb, cc, TT, fr, e1, e2, e3⟩ := hr1 j (.int .i64 x.n) (by simp [intsV, hx])
    exact ⟨bb, cc, TT, fr, e1, fun hF Γ w h1 h2 => e2 hF Γ w (fun q hq => h1 q (hi2 _ hq)) h2, e3⟩
  have hr2' : ∀ (j : Nat) (x : Ri), l[j]? = some x → ∃ bb c T fr, a2 = some ⟨bb, 0, none⟩ ∧ (∀ hF Γ w, Sh sh2 hF → St w0 hF Γ w → w.heap[bb]? = some (.cells c T fr)) ∧ c[j]? = some (.int .i64 x.v) := fun j x hx => hr2 j (.int .i64 x.v) (by simp [intsV, hx])
  clear hr1 hr2
  repeat (first | refine zck ?_ | refine zcl ?_ | refine zcm ?_ | refine zcn ?_)
  first | refine zcp (by kernel_rfl) ?_ | refine zcq PP_mixed (by kernel_rfl) (by kernel_rfl) ?_
  repeat' (refine zap rfl ?_; first | refine zan rfl ?_)
  all_goals refine zch ?_
  all_goals repeat (first | refine zck ?_ | refine zcl ?_ | refine zcm ?_ | refine zcn ?_)
  refine run_slots [(0, spP p), (1, ptr xb), (2, ptr ob), (4, .slice a1 l.length c1), (5, .slice a2 l.length c2), (7, .int .i64 0)] ⟨rfl, rfl, rfl, rfl, rfl, rfl, trivial⟩ (fun junk => ?_)
  refine run_loop (S := Nat) (fun st => [(0, spP p), (1, ptr xb), (2, ptr ob), (4, .slice a1 l.length c1), (5, .slice a2 l.length c2), (7, .int .i64 (st : Int))])
    (fun st Γ => Γ = [SpaceA p s3, okB ob true] ∧ st ≤ l.length) (fun st => l.length - st) 0 ⟨rfl, rfl, rfl, rfl, rfl, rfl, trivial⟩ ⟨rfl, Nat.zero_le _⟩ ?_
  rintro i Γ junk ⟨rfl, hi⟩
  by_cases hlt : i < l.length
  · have hx : l[i]? = some l[i] := List.getElem?_eq_getElem hlt
    generalize l[i] = x at hx
    obtain ⟨b, off, cc, TT, fr, rfl, hh, _, hcx⟩ := hR2.cells hx
    have hc0 := hcx 0 _ rfl
    have hc2 := hcx 2 _ rfl
    obtain ⟨b1, cc1, T1, fr1, rfl, hm1, hg1⟩ := hr1' i x hx
    obtain ⟨b2, cc2, T2, fr2, rfl, hm2, hg2⟩ := hr2' i x hx
    repeat' (first | refine zck ?_ | refine zcp (by kernel_rfl) ?_ | refine zcq PP_mixed (by kernel_rfl) (by kernel_rfl) ?_ | refine zcm ?_ | refine zcl ?_ | refine zcn ?_ | (refine zap rfl ?_; first | refine zad rfl hmx2 rfl ?_ | refine zad rfl hm1 (rd_one hg1 _ (by omega)) ?_ | refine zad rfl hm2 (rd_one hg2 _ (by omega)) ?_ | refine zad rfl hh (hc0 _ (by omega)) ?_ | refine zad rfl hh (hc2 _ (by omega)) ?_ | refine reg_nilI rfl ?_ | refine zaj rfl ?_ | refine zan rfl ?_ | refine zan rfl ?_ | refine zab 1 rfl rfl rfl ?_ | refine reg_invokeE [] (trNum w0 _) rfl rfl rfl sub_nil rfl ?_ | refine zce rfl ?_ | refine zao rfl ?_ | refine zan rfl ?_ | refine zbc rfl rfl (by omega) ?_ | refine zbg rfl rfl (by omega) ?_ | refine zau rfl rfl (by omega) ?_ | refine zbu rfl ?_ | refine zae 1 rfl rfl rfl rfl rfl rfl rfl ?_ | refine zas rfl rfl (by omega) ?_) | refine zch ?_ | refine zci rfl ?_)
    exact cut_end ⟨rfl, i + 1, ⟨rfl, rfl, rfl, rfl, rfl, int_eq (by omega), trivial⟩, ⟨rfl, hlt⟩, by omega⟩
  · repeat' (first | refine zck ?_ | refine zcp (by kernel_rfl) ?_ | (refine zap rfl ?_; first | refine zaj rfl ?_ | refine zan rfl ?_ | refine zab 1 rfl rfl rfl ?_ | refine zce rfl ?_ | refine zbh rfl rfl (by omega) ?_ | refine zbu rfl ?_) | refine zch ?_ | refine zcj rfl ?_)
    refine cut_exit rfl rfl ?_
    repeat' (first | refine zcp (by kernel_rfl) ?_ | (refine zap rfl ?_; first | refine zaj rfl ?_ | refine zan rfl ?_ | refine zab 1 rfl rfl rfl ?_ | (refine zai [0] (writes_spec w0 p s3 (by have := hC.few; omega)) rfl rfl rfl sub_nil ?_; rintro v Γ' ⟨wa, wcap, rfl, rfl⟩; have hw0 : s3.writes.length = 0 := Sp.writes_len0.2 (List.length_eq_zero_iff.1 (by have := hC.few; omega))) | refine zce rfl ?_ | refine zbc rfl rfl (by omega) ?_ | refine zbu rfl ?_ | refine zae 2 rfl rfl rfl rfl rfl rfl rfl ?_) | refine zch ?_)
    exact run_nil (leaves_nil (ends_take [0, 1] rfl (ends_none rfl ⟨rfl, s3, rfl, rfl, hC⟩)))
end
end Go.Proofs.YtloekplbhknepaaGreat

namespace Go.Proofs.YtloekplbhknepaaGreat
open Go.Vc Sim
set_option maxHeartbeats 8000000
section
variable {K : Int} {m : Int → Int} {l : List Ri}
theorem is_spec (w0 : World) (sh : Shared) (wb : Nat) (hK : 0 ≤ K ∧ K ≤ 60) (a : Option Addr) (c : Nat) (kn : List (Int × Wd)) (N : Int) (hN : N ≤ 1000000) (hW : WM 544 N kn m) (h : TOk K hsI (fun _ => true) m l) :
    Vc.Fn PP w0 sh 40 [stT wb K a c l] [wdA wb kn, LstT a c l] (fun v Γ => v = .bool true ∧ Γ = [wdA wb kn, LstT a c l]) := by
  refine fn_of_run en40 fn40 rfl rfl rfl ?_
  refine run_share_keep [0] rfl ?_
  refine run_lendE [0] rfl fun sh' hi hR => ?_
  have hwb : (wb, mapI (knM kn)) ∈ sh' := hi _ (.head _)
  repeat (first | refine zck ?_ | refine zcl ?_ | refine zcm ?_ | refine zcn ?_)
  first | refine zcp (by kernel_rfl) ?_ | refine zcq PP_mixed (by kernel_rfl) (by kernel_rfl) ?_
  repeat' (refine zap rfl ?_; first | refine zan rfl ?_ | refine zaq (cs := [_, _, _, _, _, _, _]) rfl (fun nb => ?_))
  all_goals refine zch ?_
  all_goals repeat (first | refine zck ?_ | refine zcl ?_ | refine zcm ?_ | refine zcn ?_)
  revert nb; intro xb
  refine run_share [0] rfl ?_
  repeat (first | refine zck ?_ | refine zcl ?_ | refine zcm ?_ | refine zcn ?_)
  first | refine zcp (by kernel_rfl) ?_ | refine zcq PP_mixed (by kernel_rfl) (by kernel_rfl) ?_
  repeat' (refine zap rfl ?_; first | refine zae 0 rfl rfl rfl rfl rfl rfl rfl ?_ | refine zar (fun nb => ?_))
  all_goals refine zch ?_
  all_goals repeat (first | refine zck ?_ | refine zcl ?_ | refine zcm ?_ | refine zcn ?_)
  revert nb; intro ob
  have hD := done_mem (σ := Unit) w0 ((xb, .cells (List.toArray (stC wb K a c l)) 35 (0, 0)) :: sh') wb kn 544 N m hN hW 71 (List.toArray [ptr xb, ptr ob]) (okB ob true) (fun _ => okB ob true) (fun _ => m)
    (fun p s hC _ => (is1_spec w0 _ p xb ob wb hK a c s hC h (.head _) (hR.mono fun _ h => .tail _ h)).mono (fun v Γ ⟨s', e1, e2, e3⟩ => ⟨(), s', 0, e1, e2, by decide, e3⟩))
  repeat (first | refine zck ?_ | refine zcl ?_ | refine zcm ?_ | refine zcn ?_)
  first | refine zcp (by kernel_rfl) ?_ | refine zcq PP_mixed (by kernel_rfl) (by kernel_rfl) ?_
  repeat' (refine zap rfl ?_; first | refine zan rfl ?_ | refine zan rfl ?_ | refine zaa 0 rfl rfl rfl ?_ | (refine zai [0] hD rfl rfl rfl (fun p hp => by rcases List.mem_cons.1 hp with e | hp <;> first | (subst e; exact .tail _ hwb) | exact hp) ?_; rintro v Γ' ⟨_, nb, wa, wl, wc, kn2, rfl, rfl, hW2⟩) | refine zao rfl ?_ | refine zan rfl ?_ | refine zan rfl ?_)
  all_goals refine zch ?_
  all_goals repeat (first | refine zck ?_ | refine zcl ?_ | refine zcm ?_ | refine zcn ?_)
  have hA := alike_spec w0 nb wb kn2 kn
  rw [alike_same hW2 hW] at hA
  refine run_share [0] rfl ?_
  repeat' (first | refine zcp (by kernel_rfl) ?_ | (refine zap rfl ?_; first | refine zaj rfl ?_ | refine zan rfl ?_ | refine zan rfl ?_ | refine zaa 1 rfl rfl rfl ?_ | refine zab 0 rfl rfl rfl ?_ | refine zah [] hA rfl rfl rfl (fun p hp => by rcases List.mem_cons.1 hp with e | hp <;> first | (subst e; exact .head _) | (rw [List.mem_singleton.1 hp]; exact .tail _ (.tail _ hwb))) rfl ?_ | refine zao rfl ?_ | refine zbu rfl ?_) | refine zch ?_)
  exact run_ret (leaves_nil (ends_take [2, 1] rfl (ends_one rfl rfl ⟨rfl, rfl, rfl⟩)))
end
end Go.Proofs.YtloekplbhknepaaGreat

namespace Sim
open Go Go.Vc
structure Kl where
  d : Int
  n : Int
  v : Int
def Kl.ok (x : Kl) : Prop := (0 ≤ x.d ∧ x.d ≤ 255) ∧ Go.Vc.i64P x.n ∧ Go.Vc.i64P x.v
abbrev Kl.cells (x : Kl) : List Go.Value := [.int .u8 x.d, .int .i64 x.n, .int .i64 x.v]
def stepK (K : Int) (s : List Ri) (x : Kl) : List Ri := stepL K hsI s x.d x.n x.v
def plT (K : Int) (l : List Kl) (i : Nat) : List Ri := (l.take i).foldl (stepK K) []
theorem plT_succ {K : Int} {l : List Kl} {i : Nat} {x : Kl} (h : l[i]? = some x) : plT K l (i + 1) = stepK K (plT K l i) x := by
  unfold plT
  rw [List.take_add_one, h]
  simp
end Sim
namespace Go.Proofs.YtloekplbhknepaaGreat
open Go.Vc Sim
set_option maxHeartbeats 8000000
instance : TUnd PP 27 (.interface #[("Hash", 60), ("Key", 58), ("Num", 58)]) := ⟨by kernel_rfl⟩
section
theorem played_spec (w0 : World) (sh : Shared) (K : Int) (hK : 0 ≤ K ∧ K ≤ 60) (v : Value) (l : List Kl) (hv : RdSl w0 sh Kl.cells 3 v l) (hok : ∀ x ∈ l, x.ok) (hlen : l.length ≤ 1000000) :
    Vc.Fn PP w0 sh 10 [trV (tI K), v] []
      (fun v Γ => ∃ (st : Ts K (plT K l l.length)) (wb : Nat) (kn : List (Int × Wd)), v = .tuple #[stT wb K st.a st.c (plT K l l.length), .bool true] ∧ Γ = [wdA wb kn, LstT st.a st.c (plT K l l.length)] ∧ WM 544 l.length kn st.m) := by
  have hF := fresh_spec w0 544 (by decide)
  have hW0 := fresh_WM 544 (by decide)
  generalize wk 0 (List.replicate 544 0) = kn0 at hF hW0
  obtain ⟨a, cap, rfl, hcap, _⟩ := id hv
  refine fn_of_run en10 fn10 rfl rfl rfl ?_
  repeat (first | refine zck ?_ | refine zcl ?_ | refine zcm ?_ | refine zcn ?_)
  first | refine zcp (by kernel_rfl) ?_ | refine zcq PP_mixed (by kernel_rfl) (by kernel_rfl) ?_
  repeat' (refine zap rfl ?_; first | refine zan rfl ?_ | refine zaq (cs := [_, _, _, _, _]) rfl (fun nb => ?_) | refine zar (fun nb => ?_))
  all_goals refine zch ?_
  all_goals repeat (first | refine zck ?_ | refine zcl ?_ | refine zcm ?_ | refine zcn ?_)
  rename_i qb
  revert nb; intro tb
  refine run_share [0] rfl ?_
  repeat (first | refine zck ?_ | refine zcl ?_ | refine zcm ?_ | refine zcn ?_)
  first | refine zcp (by kernel_rfl) ?_ | refine zcq PP_mixed (by kernel_rfl) (by kernel_rfl) ?_
  repeat' (refine zap rfl ?_; first | refine zaa 0 rfl rfl rfl ?_ | (refine zai [] hF rfl rfl rfl sub_nil ?_; rintro v Γ' ⟨wb, rfl, rfl⟩) | refine zae 2 rfl rfl rfl rfl rfl rfl rfl ?_ | refine zar (fun nb => ?_) | refine zcb rfl ?_)
  all_goals refine zch ?_
  all_goals repeat (first | refine zck ?_ | refine zcl ?_ | refine zcm ?_ | refine zcn ?_)
  revert nb; intro xb
  repeat (first | refine zck ?_ | refine zcl ?_ | refine zcm ?_ | refine zcn ?_)
  first | refine zcp (by kernel_rfl) ?_ | refine zcq PP_mixed (by kernel_rfl) (by kernel_rfl) ?_
  repeat' (refine zap rfl ?_; first | refine zan rfl ?_ | refine zce rfl ?_)
  all_goals refine zch ?_
  all_goals repeat (first | refine zck ?_ | refine zcl ?_ | refine zcm ?_ | refine zcn ?_)
  refine run_take [1, 0, 0] rfl ?_
  refine run_slots [(4, ptr tb), (6, ptr xb), (14, .slice a l.length cap), (15, .int .i64 l.length), (16, .int .i64 0)] ⟨rfl, rfl, rfl, rfl, rfl, trivial⟩ (fun junk => ?_)
  refine run_emp (A := LstT none 0 []) LstE.nil ?_
  refine run_loop (S := Nat × (Option Addr × Nat) × Nat × List (Int × Wd) × (Int → Int)) (fun st => [(4, ptr tb), (6, ptr xb), (14, .slice a l.length cap), (15, .int .i64 l.length), (16, .int .i64 (st.1 : Int))])
    (fun st Γ => Γ = [pt tb (.cells (List.toArray [.map none, .nilIface, .int .i64 0, .int .i64 0, .int .i64 0, .int .i64 0, .slice none 0 0]) 35 (0, 0)), wdA st.2.2.1 st.2.2.2.1, stB xb st.2.2.1 K st.2.1.1 st.2.1.2 (plT K l st.1), LstT st.2.1.1 st.2.1.2 (plT K l st.1)] ∧ st.1 ≤ l.length ∧
      WM 544 st.1 st.2.2.2.1 st.2.2.2.2 ∧ TOk K hsI (fun _ => true) st.2.2.2.2 (plT K l st.1)) (fun st => l.length - st.1) (0, (none, 0), wb, kn0, fun _ => 0) ⟨rfl, rfl, rfl, rfl, rfl, trivial⟩ ⟨rfl, Nat.zero_le _, hW0, TOk.zero hK⟩ ?_
  rintro ⟨i, ⟨a0, c0⟩, wb, kn, m⟩ Γ junk ⟨rfl, hi, hW, hM⟩
  dsimp only at hi hW hM ⊢
  by_cases hlt : i < l.length
  · have hx : l[i]? = some l[i] := List.getElem?_eq_getElem hlt
    generalize l[i] = x at hx
    have hxo := hok x (List.mem_of_getElem? hx)
    have hS := fun sh => step_spec w0 sh wb hK a0 c0 kn i (by omega) hW hM x.d x.n x.v hxo.1 (plT K l (i + 1)) (plT_succ hx).symm
    generalize hs0 : plT K l i = s0 at hS hM
    generalize hs1 : plT K l (i + 1) = s1 at hS
    obtain ⟨b, off, cc, TT, fr, rfl, hh, hcx, _⟩ := hv.cells hx
    repeat (first | refine zck ?_ | refine zcl ?_ | refine zcm ?_ | refine zcn ?_)
    first | refine zcp (by kernel_rfl) ?_ | refine zcq PP_mixed (by kernel_rfl) (by kernel_rfl) ?_
    repeat' (refine zap rfl ?_; first | refine zbg rfl rfl (by omega) ?_)
    all_goals refine zch ?_
    all_goals repeat (first | refine zck ?_ | refine zcl ?_ | refine zcm ?_ | refine zcn ?_)
    refine zci rfl ?_
    repeat (first | refine zck ?_ | refine zcl ?_ | refine zcm ?_ | refine zcn ?_)
    first | refine zcp (by kernel_rfl) ?_ | refine zcq PP_mixed (by kernel_rfl) (by kernel_rfl) ?_
    repeat' (refine zap rfl ?_; first | refine zad rfl (fun hF Γ w h1 h2 => hh hF Γ w (fun p hp => h1 p (.tail _ hp)) h2) (hcx _ (by omega)) ?_ | refine zae 4 rfl rfl rfl rfl rfl rfl rfl ?_ | refine zas rfl rfl (by omega) ?_ | refine zar (fun nb => ?_))
    all_goals refine zch ?_
    all_goals repeat (first | refine zck ?_ | refine zcl ?_ | refine zcm ?_ | refine zcn ?_)
    revert nb; intro cb
    refine run_share [4] rfl ?_
    repeat (first | refine zck ?_ | refine zcl ?_ | refine zcm ?_ | refine zcn ?_)
    first | refine zcp (by kernel_rfl) ?_ | refine zcq PP_mixed (by kernel_rfl) (by kernel_rfl) ?_
    repeat' (refine zap rfl ?_; first | (refine zai [1, 2] (hS sh) rfl rfl rfl (fun _ h => .tail _ (.tail _ h)) ?_; rintro v Γ' ⟨⟨m1, a1, c1, hM1⟩, wb1, kn1, rfl, rfl, hW1⟩) | refine zan rfl ?_ | refine zan rfl ?_ | refine zaa 0 rfl rfl rfl ?_ | refine zab 2 rfl rfl rfl ?_ | refine zan rfl ?_ | refine zae 4 rfl rfl rfl rfl rfl rfl rfl ?_ | refine zar (fun nb => ?_))
    all_goals refine zch ?_
    all_goals repeat (first | refine zck ?_ | refine zcl ?_ | refine zcm ?_ | refine zcn ?_)
    revert nb; intro nx
    refine run_share [4] rfl ?_
    have hI := is_spec w0 sh wb1 hK a1 c1 kn1 (i + 1) (by omega) hW1 hM1
    repeat (first | refine zck ?_ | refine zcl ?_ | refine zcm ?_ | refine zcn ?_)
    first | refine zcp (by kernel_rfl) ?_ | refine zcq PP_mixed (by kernel_rfl) (by kernel_rfl) ?_
    repeat' (refine zap rfl ?_; first | (refine zai [0, 0] hI rfl rfl rfl (fun _ h => .tail _ (.tail _ (.tail _ h))) ?_; rintro v Γ' ⟨rfl, rfl⟩) | refine reg_eq_nilI rfl rfl ?_ | refine zaj rfl ?_ | refine zan rfl ?_ | refine zaa 0 rfl rfl rfl ?_ | refine zao rfl ?_ | refine zbx rfl ?_ | refine zbv rfl ?_)
    all_goals refine zch ?_
    all_goals repeat (first | refine zck ?_ | refine zcl ?_ | refine zcm ?_ | refine zcn ?_)
    refine zcj rfl ?_
    repeat' (first | refine zcp (by kernel_rfl) ?_ | refine zcm ?_ | refine zcn ?_ | (refine zap rfl ?_; first | refine zan rfl ?_ | refine zaa 0 rfl rfl rfl ?_ | refine zau rfl rfl (by omega) ?_ | refine zae 3 rfl rfl rfl rfl rfl rfl rfl ?_) | refine zch ?_)
    refine run_take [2, 0, 1, 0] rfl ?_
    refine cut_end ⟨rfl, (i + 1, (a1, c1), wb1, kn1, m1), ⟨rfl, rfl, rfl, rfl, int_eq (by dsimp only; omega), trivial⟩, ⟨?_, by dsimp only; omega, ?_, ?_⟩, by dsimp only; omega⟩
    · dsimp only
      rw [hs1]
    · exact (show ((i + 1 : Nat) : Int) = (i : Int) + 1 by omega) ▸ hW1
    · dsimp only
      rw [hs1]
      exact hM1
  · have hil : i = l.length := by omega
    repeat' (first | refine zck ?_ | refine zcp (by kernel_rfl) ?_ | (refine zap rfl ?_; first | refine zbh rfl rfl (by omega) ?_) | refine zch ?_ | refine zcj rfl ?_)
    refine cut_exit rfl rfl ?_
    repeat' (first | refine zck ?_ | refine zcp (by kernel_rfl) ?_ | (refine zap rfl ?_; first | refine zan rfl ?_ | refine zab 2 rfl rfl rfl ?_ | refine zae 0 rfl rfl rfl rfl rfl rfl rfl ?_) | refine zch ?_)
    subst hil
    exact run_ret (leaves_nil (ends_take [1, 2] rfl (ends_two rfl (resOk_pt 0 rfl rfl rfl) rfl ⟨rfl, ⟨m, a0, c0, hM⟩, wb, kn, rfl, rfl, hW⟩)))
end
end Go.Proofs.YtloekplbhknepaaGreat

namespace Go.Proofs.YtloekplbhknepaaGreat
open Go.Vc Sim Go.ChangeShapes Go.WideShapes Go.RowKit
set_option maxRecDepth 100000
theorem cOwn : ownKnob Tryz.prog.godebug = none := by kernel_rfl
theorem cLaid : laidOutB Tryz.prog = true := by kernel_rfl
theorem calls_of {f : FuncId} {args : List Value} {W : World} (h : FnE PP W [] f args [] (.bool true) []) : Calls Tryz.prog f args.toArray W fun e W' => e = .returned (.bool true) ∧ Below W.heap.size W W' := by
  have := h.calls Heap.emp W (fun p hp => by cases hp) (st_start W)
  rw [PP_def] at this
  exact this.mono fun e W' ⟨v, Γ', he, ⟨hv, hΓ⟩, hst⟩ => ⟨by rw [he, hv], below_of_good hst.good⟩
theorem in_call {H : Type} {enc : TypeId × Value → H} {w : World} {base : Nat} {spare : Nat → Bool} {held : Bool} {n : Nat} {cs : List Value} {y : DataW H × List MemPlace}
    (h : DataW.trod enc Tryz.prog w base spare held n 64 cs = some y) : ∃ x : Kl, x.ok ∧ cs = x.cells := by
  obtain ⟨xs, n', _, _, hlen, hxl, hf⟩ := DataW.trod_struct Tryz.underlying64 h
  have c5 : Tryz.prog.cellsOf 5 = 1 := by kernel_rfl
  have c2 : Tryz.prog.cellsOf 2 = 1 := by kernel_rfl
  have c48 : Tryz.prog.cellsOf 64 = 3 := by kernel_rfl
  rw [c48] at hlen
  have f0 : DataW.trod enc Tryz.prog w base spare held n' 5 ((cs.drop 0).take (Tryz.prog.cellsOf 5)) = xs[0]? := hf 0 _ rfl
  have f1 : DataW.trod enc Tryz.prog w base spare held n' 2 ((cs.drop 1).take (Tryz.prog.cellsOf 2)) = xs[1]? := hf 1 _ rfl
  have f2 : DataW.trod enc Tryz.prog w base spare held n' 2 ((cs.drop 2).take (Tryz.prog.cellsOf 2)) = xs[2]? := hf 2 _ rfl
  rw [c5] at f0
  rw [c2] at f1 f2
  match cs, hlen with
  | [a0, a1, a2], _ =>
    match xs, hxl with
    | [y0, y1, y2], _ =>
      obtain ⟨k0, e0, _, w0⟩ := DataW.trod_int Tryz.underlying5 (show DataW.trod _ _ _ _ _ _ n' _ [a0] = some y0 from f0)
      obtain ⟨k1, e1, _, w1⟩ := DataW.trod_int Tryz.underlying2 (show DataW.trod _ _ _ _ _ _ n' _ [a1] = some y1 from f1)
      obtain ⟨k2, e2, _, w2⟩ := DataW.trod_int Tryz.underlying2 (show DataW.trod _ _ _ _ _ _ n' _ [a2] = some y2 from f2)
      simp only [List.cons.injEq, and_true] at e0 e1 e2
      subst e0; subst e1; subst e2
      exact ⟨⟨k0, k1, k2⟩, ⟨wf_u8 w0, wf_i64 w1, wf_i64 w2⟩, rfl⟩
theorem in_calls {H : Type} {enc : TypeId × Value → H} {w : World} {base : Nat} {spare : Nat → Bool} {held : Bool} {r : Reach} {b0 : Nat} {v : Value} {d : DataW H} {ps : List MemPlace}
    (hval : Value.okWide Tryz.prog w r b0 22 v) (h : DataW.Trod enc Tryz.prog w base spare held 22 v d ps) : ∃ l, InSl w Kl.cells 3 v l ∧ ∀ x ∈ l, x.ok :=
  in_slice Kl.cells Kl.ok Tryz.underlying22 (by kernel_rfl) (by decide) hval (fun n cs y hy => in_call hy) h
end Go.Proofs.YtloekplbhknepaaGreat

namespace Sim
open Go Go.Vc
def exK : List Kl := [⟨0, 1, 10⟩, ⟨0, 2, 20⟩, ⟨0, 1, 11⟩, ⟨3, 2, 0⟩]
theorem exK_ok : ∀ x ∈ exK, x.ok := by
  intro x hx
  simp only [exK, List.mem_cons, List.not_mem_nil, or_false] at hx
  rcases hx with rfl | rfl | rfl | rfl <;> exact ⟨by decide, ⟨by decide, by decide⟩, ⟨by decide, by decide⟩⟩
theorem exK_pl : plT 9 exK 4 = [⟨1, hsI 1, 11⟩] := by kernel_rfl
theorem TOk.root1 {K : Int} {hs : Int → Int} {hv : Int → Bool} {m : Int → Int} {x : Ri} (h : TOk K hs hv m [x]) : 0 < m 16 ∧ m 17 = 1 ∧ m 23 = 1 := by
  obtain ⟨I, B, Q, M, hT, A⟩ := h
  have hl : I.length = 1 := by have := A.pm.length_eq; rw [List.length_map] at this; simpa using this.symm
  have hQ : Q.length = 0 := by
    refine Nat.eq_zero_of_not_pos fun hp => ?_
    obtain ⟨q, hq⟩ := List.exists_mem_of_length_pos hp
    have h2 := hT _ _ ((M.sh.qm q.1 q.2).2 hq)
    have h3 : (Fd q.1 q.2 I).length ≤ I.length := List.length_filter_le _ _
    omega
  have hB : B 0 (pre 0 0) = 0 := Classical.byContradiction fun hb => by
    have h2 := (M.sh.qm _ _).1 hb
    have := List.length_pos_of_mem h2
    omega
  match I, hl with
  | [y], _ =>
    have hc := M.tc.cell 0 0 (by decide) trivial
    unfold vl at hc
    rw [if_pos hB, Fd_cons, if_pos (by rw [pre_zero, pre_zero])] at hc
    have hn := Tsh.ndlo (M.sh.ndL (x := y) (by simp))
    refine ⟨?_, by have := M.len; simpa using this, by have := M.nod; rw [hQ] at this; simpa using this⟩
    have e : m 16 = y.a := hc
    omega
end Sim
namespace Go.Proofs.YtloekplbhknepaaGreat
open Go.Vc Sim
set_option maxHeartbeats 8000000
theorem nodes_ok36 (w0 : World) (n : Int) (hn : 0 ≤ n ∧ n ≤ 255) : FnE PP w0 [] 13 [.int .u8 n] [] (.agg (List.toArray [.int .i64 1, .int .i64 64, .int .i64 (n % 61)])) [] := by
  have hn8 : n.tmod 61 = n % 61 := Int.tmod_eq_emod_of_nonneg hn.1
  refine fn_of_run en13 fn13 rfl rfl rfl ?_
  repeat' (first | refine zck ?_ | refine zcp (by kernel_rfl) ?_ | (refine zap rfl ?_; first | (refine reg_rem rfl rfl (by decide) ?_; rw [hn8]) | refine zbz rfl (by omega) ?_ | refine zan rfl ?_ | refine zae 0 rfl rfl rfl rfl rfl rfl rfl ?_ | refine zar (fun nb => ?_) | refine zcb rfl ?_) | refine zch ?_)
  exact run_ret (leaves_nil (ends_take [] rfl (ends_one rfl (resOk_pt 0 rfl rfl rfl) ⟨rfl, rfl, rfl⟩)))
theorem ints_spec (w0 : World) (n : Int) (hn : 0 ≤ n ∧ n ≤ 255) : FnE PP w0 [] 11 [.int .u8 n] [] (trV (tI (n % 61))) [] := by
  have hN := nodes_ok36 w0 n hn
  have hMk : ∀ w, (Instr.makeInterface 57 (.agg #[])).run PP w = .ok (.iface 57 (.agg #[])) w := fun w => by kernel_rfl
  refine fn_of_run en11 fn11 rfl rfl rfl ?_
  repeat' (first | refine zck ?_ | refine zcp (by kernel_rfl) ?_ | (refine zap rfl ?_; first | refine reg_mkI hMk rfl ?_ | refine zan rfl ?_ | refine zah [] hN rfl rfl rfl sub_nil rfl ?_ | refine zae 0 rfl rfl rfl rfl rfl rfl rfl ?_ | refine zar (fun nb => ?_) | refine zcb rfl ?_) | refine zch ?_)
  exact run_ret (leaves_nil (ends_take [] rfl (ends_one rfl (resOk_pt 0 rfl rfl rfl) ⟨rfl, rfl, rfl⟩)))
theorem played_at (w0 : World) (sh : Shared) (v : Value) (l : List Kl) (hv : RdSl w0 sh Kl.cells 3 v l) (hok : ∀ x ∈ l, x.ok) (hlen : l.length ≤ 1000000) (K : Int) (hK : 0 ≤ K ∧ K ≤ 60) (l' : List Ri) (hl' : plT K l l.length = l') :
    Vc.Fn PP w0 sh 10 [trV (tI K), v] []
      (fun v Γ => ∃ (st : Ts K l') (wb : Nat) (kn : List (Int × Wd)), v = .tuple #[stT wb K st.a st.c l', .bool true] ∧ Γ = [wdA wb kn, LstT st.a st.c l'] ∧ WM 544 l.length kn st.m) := by
  subst hl'
  exact played_spec w0 sh K hK v l hv hok hlen
abbrev exB (b : Nat) (l : List Kl) : Asn := pt b (.cells (List.toArray (l.flatMap Kl.cells)) 64 (0, 0))
theorem played_ex (w0 : World) (b : Nat) (l : List Kl) (hok : ∀ x ∈ l, x.ok) (hlen : l.length ≤ 1000000) (l' : List Ri) (hl' : plT 9 l l.length = l') :
    Vc.Fn PP w0 [] 10 [trV (tI 9), .slice (some ⟨b, 0, none⟩) l.length l.length] [exB b l]
      (fun v Γ => ∃ (st : Ts 9 l') (wb : Nat) (kn : List (Int × Wd)), v = .tuple #[stT wb 9 st.a st.c l', .bool true] ∧ Γ = [wdA wb kn, LstT st.a st.c l', exB b l] ∧ WM 544 l.length kn st.m) := by
  refine ((played_at w0 _ _ l (RdSl.flat (fun _ _ => rfl) (.head _)) hok hlen 9 (by decide) l' hl').owned).mono ?_
  rintro v Γ ⟨Γ', ⟨st, wb, kn, h1, rfl, h2⟩, rfl⟩
  exact ⟨st, wb, kn, h1, rfl, h2⟩
theorem awake_spec (w0 : World) : FnE PP w0 [] 9 [] [] (.bool true) [] := by
  have hI := ints_spec w0 9 (by decide)
  have e9 : (9 : Int) % 61 = 9 := by decide
  rw [e9] at hI
  refine fn_of_run en9 fn9 rfl rfl rfl ?_
  repeat (first | refine zck ?_ | refine zcl ?_ | refine zcm ?_ | refine zcn ?_)
  first | refine zcp (by kernel_rfl) ?_ | refine zcq PP_mixed (by kernel_rfl) (by kernel_rfl) ?_
  repeat' (refine zap rfl ?_; first | refine zan rfl ?_)
  all_goals refine zch ?_
  all_goals repeat (first | refine zck ?_ | refine zcl ?_ | refine zcm ?_ | refine zcn ?_)
  repeat (first | refine zck ?_ | refine zcl ?_ | refine zcm ?_ | refine zcn ?_)
  first | refine zcp (by kernel_rfl) ?_ | refine zcq PP_mixed (by kernel_rfl) (by kernel_rfl) ?_
  repeat' (refine zap rfl ?_; first | refine zcb rfl ?_ | refine reg_buildSlice rfl rfl rfl rfl rfl rfl (fun nb => ?_) | (refine zai [0] (played_ex w0 _ exK exK_ok (by decide) _ exK_pl) rfl rfl rfl sub_nil ?_; rintro v Γ' ⟨⟨m, a, c, hM⟩, wb, kn, rfl, rfl, hW⟩) | refine zan rfl ?_ | refine zan rfl ?_ | refine zah [] hI rfl rfl rfl sub_nil rfl ?_ | refine zan rfl ?_ | refine zae 3 rfl rfl rfl rfl rfl rfl rfl ?_ | refine zar (fun nb => ?_))
  all_goals refine zch ?_
  all_goals repeat (first | refine zck ?_ | refine zcl ?_ | refine zcm ?_ | refine zcn ?_)
  obtain ⟨h1, h2, h3⟩ := hM.root1
  have v16 : ((lookW kn 16).getD ⟨0, 0, 0⟩).val = m 16 := by rw [valW_getD]; exact hW.val 16 (by decide) (by decide)
  have v17 : ((lookW kn 17).getD ⟨0, 0, 0⟩).val = 1 := by rw [valW_getD]; exact (hW.val 17 (by decide) (by decide)).trans h2
  have v23 : ((lookW kn 23).getD ⟨0, 0, 0⟩).val = 1 := by rw [valW_getD]; exact (hW.val 23 (by decide) (by decide)).trans h3
  refine run_share [0] rfl ?_
  repeat' (first | refine zcp (by kernel_rfl) ?_ | (refine zap rfl ?_; first | refine reg_lookup_at (.head _) rfl rfl (valW_look kn _ _ rfl) ?_ | (refine reg_fieldV rfl rfl ?_; first | rw [v16] | rw [v17] | rw [v23]) | refine zaj rfl ?_ | refine zan rfl ?_ | refine zan rfl ?_ | refine zab 2 rfl rfl rfl ?_ | refine zce rfl ?_ | refine zao rfl ?_ | refine zbc rfl rfl (by omega) ?_ | refine zbk rfl rfl (by omega) ?_ | refine zbo rfl rfl ?_ | refine zbu rfl ?_) | refine zch ?_)
  exact run_ret (leaves_nil (ends_take [] rfl (ends_one rfl rfl ⟨rfl, rfl, rfl⟩)))
end Go.Proofs.YtloekplbhknepaaGreat

namespace Sim
open Go Go.Vc
end Sim
namespace Go.Proofs.YtloekplbhknepaaGreat
open Go.Vc Sim
set_option maxHeartbeats 8000000
end Go.Proofs.YtloekplbhknepaaGreat

namespace Sim
open Go Go.Vc
def I64 (m : Int → Int) : Prop := ∀ a, -9223372036854775808 ≤ m a ∧ m a ≤ 9223372036854775807
theorem I64.upd {m : Int → Int} (h : I64 m) {a v : Int} (hv : -9223372036854775808 ≤ v ∧ v ≤ 9223372036854775807) : I64 (upd m a v) := fun x => by
  unfold Sim.upd
  split
  · exact hv
  · exact h x
def InN (a : Int) : Prop := 64 ≤ a ∧ a + 8 ≤ 544
def InC (a : Int) : Prop := 0 ≤ a ∧ a < 544
theorem tnode_bd {K : Int} (hK : 0 ≤ K ∧ K ≤ 60) {a : Int} (h : -9223372036854775808 ≤ a ∧ a ≤ 9223372036854775807) (hn : (tP K).node a = true) : InN a := by
  have hn2 := hn
  unfold Pl.node tP at hn2
  simp only [Bool.and_eq_true, decide_eq_true_eq] at hn2
  obtain ⟨⟨h1, h2⟩, h3⟩ := hn2
  have e1 : w64 (a - 64) = a - 64 := w64_in (by omega) (by omega)
  rw [e1] at h3
  have hq : 0 ≤ (a - 64).tdiv 8 ∧ (a - 64).tdiv 8 ≤ a - 64 := by
    rw [Int.tdiv_eq_ediv_of_nonneg (by omega)]
    omega
  rw [w64_in (by omega) (by omega), Int.tdiv_eq_ediv_of_nonneg (by omega)] at h3
  have := Tsh.ndlo ((node_iff (tP_fine hK) a (by omega) (by omega)).1 hn)
  unfold InN
  omega
section
open Pg
variable {K : Int} {hs : Int → Int} {hv : Int → Bool} {m : Int → Int}
theorem nodeN_in (hK : 0 ≤ K ∧ K ≤ 60) {t : Int} (hb : (t0 K hs hv).nodeB t = true) : InN (Tr.nodeN t) := by
  unfold Tr.nodeB at hb
  unfold Tr.nodeN
  split
  · rename_i h; rw [if_pos h] at hb; cases hb
  · rename_i h
    rw [if_neg h] at hb
    exact tnode_bd hK (by omega) hb
structure WIn (w : TWay) : Prop where
  cell : InC w.cell
  bs : ∀ b ∈ w.bs, InN b
  cs : ∀ c ∈ w.cs, InC c
theorem InN.cell {a i : Int} (h : InN a) (hi : 0 ≤ i ∧ i < 8) : InC (a + i) := by unfold InN at h; unfold InC; omega
end
end Sim
namespace Go.Proofs.YtloekplbhknepaaGreat
open Go.Vc Sim
end Go.Proofs.YtloekplbhknepaaGreat

namespace Go.Vc
end Go.Vc
namespace Go.Proofs.YtloekplbhknepaaGreat
open Go.Vc Sim
set_option maxHeartbeats 8000000
abbrev erB (eb : Nat) (e : Int) : Asn := pt eb (.cells (List.toArray [.int .i64 e]) 69 (0, 0))
abbrev trC (K : Int) : Obj := .cells (List.toArray [kV, .int .i64 1, .int .i64 64, .int .i64 K, .int .i64 16]) 32 (0, 0)
structure Be (m : Int → Int) where
  e : Int
  m' : Int → Int
  ok : e ≠ 0 → m' = m
section
variable {K : Int} {m : Int → Int}
abbrev slB (b : Nat) (a : Option Addr) (len c : Nat) : Asn := pt b (.cells (List.toArray [.slice a len c]) 62 (0, 0))
structure Bw where
  ks : List Int
  f : Int
  a1 : Option Addr
  c1 : Nat
  a2 : Option Addr
  c2 : Nat
  ok : f = 0 ∨ ks = []
  up : ks.Pairwise (fun x y => x ≤ y)
  few : ks.length ≤ 1000
def Bw.A (x : Bw) (kb vb eb : Nat) : Asn := StarsA [slB kb x.a1 x.ks.length x.c1, slB vb x.a2 x.ks.length x.c2, erB eb x.f, LstA 2 (.slice x.a1 x.ks.length x.c1) x.ks]
end
end Go.Proofs.YtloekplbhknepaaGreat

namespace Sim
open Go Go.Vc
theorem WM.set {N T : Int} {kn : List (Int × Wd)} {m : Int → Int} (h : WM N T kn m) (hT : 0 ≤ T) (hN : N ≤ 4096) {a v : Int} (h0 : 0 ≤ a) (h1 : a < N) : WM N T (insW kn a ⟨v, 0, 0⟩) (upd m a v) := by
  refine ⟨⟨insW_keys _ _ _ h.ok.nd, fun x w hw => ?_⟩, fun x => ?_, fun x a1 a2 => ?_⟩
  · rw [look_insW] at hw
    by_cases e : a = x
    · rw [if_pos e] at hw
      cases hw
      dsimp only
      omega
    · rw [if_neg e] at hw
      exact h.ok.wd x w hw
  · rw [look_insW]
    by_cases e : a = x
    · rw [if_pos e]; subst e; simp; omega
    · rw [if_neg e]; exact h.dom x
  · unfold valW upd
    rw [look_insW]
    by_cases e : a = x
    · rw [if_pos e, if_pos e.symm]
    · rw [if_neg e, if_neg (Ne.symm e)]
      exact h.val x a1 a2
end Sim
namespace Go.Proofs.YtloekplbhknepaaGreat
open Go.Vc Sim
set_option maxHeartbeats 8000000
end Go.Proofs.YtloekplbhknepaaGreat

namespace Sim
open Go Go.Vc
def brKids (f : Int → List Int) : Nat → Int → List Int
  | 0, _ => []
  | k + 1, a => f a ++ brKids f k (a + 1)
def brBits (m : Int → Int) (a : Int) : Nat → Int
  | 0 => 0
  | c + 1 => brBits m a c + (if m (a + c) = 0 then 0 else 2 ^ c)
def brM (m : Int → Int) : Nat → Int → Nat → List Int
  | 0, _, _ => []
  | k + 1, x, d => if 0 ≤ x ∨ 3 < d then [] else (d : Int) :: brBits m (0 - x) 8 :: brKids (fun a => brM m k (m a) (d + 1)) 8 (0 - x)
def BrOk (m : Int → Int) : Nat → Int → Nat → Prop
  | 0, x, d => 0 ≤ x ∨ 3 < d
  | k + 1, x, d => (0 ≤ x ∨ 3 < d) ∨ (-4096 ≤ x ∧ ∀ c : Int, 0 ≤ c → c < 8 → BrOk m k (m (0 - x + c)) (d + 1))
theorem brBits_bd (m : Int → Int) (a : Int) : ∀ c : Nat, 0 ≤ brBits m a c ∧ brBits m a c < 2 ^ c
  | 0 => by unfold brBits; decide
  | c + 1 => by
    have h := brBits_bd m a c
    unfold brBits
    rw [Int.pow_succ]
    split <;> omega
theorem or_pow : ∀ {b : Int} {c : Nat}, c < 8 → 0 ≤ b → b < 2 ^ c → IntKind.i64.wrap ((BitVec.ofInt 64 b ||| BitVec.ofInt 64 (2 ^ c)).toNat : Nat) = b + 2 ^ c := by
  intro b c hc h0 h1
  have h : ∀ c : _root_.Fin 8, ∀ b : _root_.Fin 128, b.val < 2 ^ c.val → IntKind.i64.wrap ((BitVec.ofInt 64 (b.val : Int) ||| BitVec.ofInt 64 (2 ^ c.val)).toNat : Nat) = (b.val : Int) + 2 ^ c.val := by decide +kernel
  have h7 : (2 : Int) ^ c ≤ 2 ^ 7 := by
    have : ∀ c : _root_.Fin 8, (2 : Int) ^ c.val ≤ 2 ^ 7 := by decide
    exact this ⟨c, hc⟩
  have e : ((b.toNat : Nat) : Int) = b := by omega
  have := h ⟨c, hc⟩ ⟨b.toNat, by omega⟩ (by
    have h2 : ((b.toNat : Nat) : Int) < ((2 ^ c : Nat) : Int) := by rw [e, Int.natCast_pow]; exact h1
    exact Int.ofNat_lt.1 h2)
  simp only [e] at this
  exact this
theorem ten_pos (k : Nat) : 1 ≤ 10 ^ k := Nat.one_le_pow k 10 (by decide)
theorem brKids_len {f : Int → List Int} {L : Nat} (hf : ∀ a, (f a).length ≤ L) : ∀ (j : Nat) (a : Int), (brKids f j a).length ≤ j * L
  | 0, _ => Nat.zero_le _
  | j + 1, a => by
    unfold brKids
    rw [List.length_append, Nat.succ_mul]
    have := hf a
    have := brKids_len hf j (a + 1)
    omega
theorem shl_one {c : Nat} (hc : c < 8) : IntKind.i64.wrap ((1 : Int) * 2 ^ c) = 2 ^ c := by
  have h : ∀ c : _root_.Fin 8, IntKind.i64.wrap ((1 : Int) * 2 ^ c.val) = 2 ^ c.val := by decide
  exact h ⟨c, hc⟩
theorem brM_len (m : Int → Int) : ∀ (k : Nat) (x : Int) (d : Nat), (brM m k x d).length ≤ 10 ^ k
  | 0, _, _ => Nat.zero_le _
  | k + 1, x, d => by
    unfold brM
    split
    · exact Nat.zero_le _
    · have h2 := brKids_len (f := fun a => brM m k (m a) (d + 1)) (fun a => brM_len m k (m a) (d + 1)) 8 (0 - x)
      have h3 := ten_pos k
      simp only [List.length_cons]
      rw [Nat.pow_succ]
      omega
theorem brKids_take (f : Int → List Int) : ∀ (j : Nat) (a : Int), brKids f (j + 1) a = brKids f j a ++ f (a + j)
  | 0, a => by simp [brKids]
  | j + 1, a => by
    rw [brKids, brKids_take f j (a + 1), brKids, List.append_assoc]
    congr 3
    omega
end Sim
namespace Go.Proofs.YtloekplbhknepaaGreat
open Go.Vc Sim
set_option maxHeartbeats 8000000
def BrR (l : List Int) (v : Value) (Γ : List Asn) : Prop := ∃ a c, v = .slice a l.length c ∧ Γ = [SlA 3 1 a l.length c (intsV l)]
theorem branches_spec (w0 : World) (wb : Nat) (kn : List (Int × Wd)) : ∀ (k : Nat) (x : Int) (d : Nat), k ≤ 5 → d ≤ 10 → BrOk (valW kn) k x d →
    Vc.Fn PP w0 [(wb, mapI (knM kn))] 35 [.map (some wb), .int .i64 x, .int .i64 (d : Int)] [] (BrR (brM (valW kn) k x d)) := by
  intro k
  induction k with
  | zero =>
    intro x d _ hd hb
    have hb : 0 ≤ x ∨ 3 < d := hb
    have e : brM (valW kn) 0 x d = [] := rfl
    rw [e]
    by_cases hx : 0 ≤ x
    · refine fn_of_run en35 fn35 rfl rfl rfl ?_
      repeat' (first | refine zck ?_ | refine zcp (by kernel_rfl) ?_ | (refine zap rfl ?_; first | refine zak rfl ?_ | refine zan rfl ?_ | refine zan rfl ?_ | refine zbm rfl rfl (by omega) ?_ | refine zbu rfl ?_) | refine zch ?_ | refine zci rfl ?_)
      refine run_nilslice 3 1 ?_
      exact ret_tmp1 rfl ⟨none, 0, rfl, rfl⟩
    · refine fn_of_run en35 fn35 rfl rfl rfl ?_
      repeat' (first | refine zck ?_ | refine zcp (by kernel_rfl) ?_ | (refine zap rfl ?_; first | refine zaj rfl ?_ | refine zan rfl ?_ | refine zan rfl ?_ | refine zbk rfl rfl (by omega) ?_ | refine zbn rfl rfl (by omega) ?_ | refine zbv rfl ?_) | refine zch ?_ | refine zci rfl ?_)
      refine run_nilslice 3 1 ?_
      exact ret_tmp1 rfl ⟨none, 0, rfl, rfl⟩
  | succ k ih =>
    intro x d hk hd hb
    by_cases hx : 0 ≤ x
    · have e : brM (valW kn) (k + 1) x d = [] := by unfold brM; exact if_pos (.inl hx)
      rw [e]
      refine fn_of_run en35 fn35 rfl rfl rfl ?_
      repeat' (first | refine zck ?_ | refine zcp (by kernel_rfl) ?_ | (refine zap rfl ?_; first | refine zak rfl ?_ | refine zan rfl ?_ | refine zan rfl ?_ | refine zbm rfl rfl (by omega) ?_ | refine zbu rfl ?_) | refine zch ?_ | refine zci rfl ?_)
      refine run_nilslice 3 1 ?_
      exact ret_tmp1 rfl ⟨none, 0, rfl, rfl⟩
    by_cases hd3 : 3 < d
    · have e : brM (valW kn) (k + 1) x d = [] := by unfold brM; exact if_pos (.inr hd3)
      rw [e]
      refine fn_of_run en35 fn35 rfl rfl rfl ?_
      repeat' (first | refine zck ?_ | refine zcp (by kernel_rfl) ?_ | (refine zap rfl ?_; first | refine zaj rfl ?_ | refine zan rfl ?_ | refine zan rfl ?_ | refine zbk rfl rfl (by omega) ?_ | refine zbn rfl rfl (by omega) ?_ | refine zbv rfl ?_) | refine zch ?_ | refine zci rfl ?_)
      refine run_nilslice 3 1 ?_
      exact ret_tmp1 rfl ⟨none, 0, rfl, rfl⟩
    have e : brM (valW kn) (k + 1) x d = (d : Int) :: brBits (valW kn) (0 - x) 8 :: brKids (fun a => brM (valW kn) k (valW kn a) (d + 1)) 8 (0 - x) := by
      rw [brM]; exact if_neg (fun h => h.elim hx hd3)
    rw [e]
    obtain ⟨hx0, hkid⟩ := Or.resolve_left hb (fun h => h.elim hx hd3)
    refine fn_of_run en35 fn35 rfl rfl rfl ?_
    repeat (first | refine zck ?_ | refine zcl ?_ | refine zcm ?_ | refine zcn ?_)
    first | refine zcp (by kernel_rfl) ?_ | refine zcq PP_mixed (by kernel_rfl) (by kernel_rfl) ?_
    repeat' (refine zap rfl ?_; first | refine zan rfl ?_)
    all_goals refine zch ?_
    all_goals repeat (first | refine zck ?_ | refine zcl ?_ | refine zcm ?_ | refine zcn ?_)
    repeat (first | refine zck ?_ | refine zcl ?_ | refine zcm ?_ | refine zcn ?_)
    first | refine zcp (by kernel_rfl) ?_ | refine zcq PP_mixed (by kernel_rfl) (by kernel_rfl) ?_
    repeat' (refine zap rfl ?_; first | refine zaj rfl ?_ | refine zan rfl ?_ | refine zbl rfl rfl (by omega) ?_ | refine zbn rfl rfl (by omega) ?_ | refine zbv rfl ?_)
    all_goals refine zch ?_
    all_goals repeat (first | refine zck ?_ | refine zcl ?_ | refine zcm ?_ | refine zcn ?_)
    refine zcj rfl ?_
    repeat (first | refine zck ?_ | refine zcl ?_ | refine zcm ?_ | refine zcn ?_)
    first | refine zcp (by kernel_rfl) ?_ | refine zcq PP_mixed (by kernel_rfl) (by kernel_rfl) ?_
    repeat' (refine zap rfl ?_; first | refine reg_buildSlice rfl rfl rfl rfl rfl rfl (fun nb => ?_) | refine zan rfl ?_ | refine zan rfl ?_)
    all_goals refine zch ?_
    all_goals repeat (first | refine zck ?_ | refine zcl ?_ | refine zcm ?_ | refine zcn ?_)
    revert nb; intro ob
    repeat (first | refine zck ?_ | refine zcl ?_ | refine zcm ?_ | refine zcn ?_)
    first | refine zcp (by kernel_rfl) ?_ | refine zcq PP_mixed (by kernel_rfl) (by kernel_rfl) ?_
    repeat' (refine zap rfl ?_; first | refine zan rfl ?_)
    all_goals refine zch ?_
    all_goals repeat (first | refine zck ?_ | refine zcl ?_ | refine zcm ?_ | refine zcn ?_)
    repeat (first | refine zck ?_ | refine zcl ?_ | refine zcm ?_ | refine zcn ?_)
    first | refine zcp (by kernel_rfl) ?_ | refine zcq PP_mixed (by kernel_rfl) (by kernel_rfl) ?_
    repeat' (refine zap rfl ?_; first | refine zan rfl ?_)
    all_goals refine zch ?_
    all_goals repeat (first | refine zck ?_ | refine zcl ?_ | refine zcm ?_ | refine zcn ?_)
    refine run_nilslice 3 1 ?_
    repeat (first | refine zck ?_ | refine zcl ?_ | refine zcm ?_ | refine zcn ?_)
    first | refine zcp (by kernel_rfl) ?_ | refine zcq PP_mixed (by kernel_rfl) (by kernel_rfl) ?_
    repeat' (refine zap rfl ?_; first | refine zan rfl ?_)
    all_goals refine zch ?_
    all_goals repeat (first | refine zck ?_ | refine zcl ?_ | refine zcm ?_ | refine zcn ?_)
    refine run_exch 0 (SlA 3 1 (some ⟨ob, 0, none⟩) 1 1 [.int .i64 (d : Int)]) rfl (SlA_pt rfl) rfl ?_
    have hkl : ∀ a, (brM (valW kn) k (valW kn a) (d + 1)).length ≤ 100000 := fun a => Nat.le_trans (brM_len _ k _ _) (Nat.le_trans (Nat.pow_le_pow_right (by decide) (show k ≤ 5 by omega)) (by decide))
    generalize hf : (fun a => brM (valW kn) k (valW kn a) (d + 1)) = f
    have hfa : ∀ a, f a = brM (valW kn) k (valW kn a) (d + 1) := fun a => by rw [← hf]
    have hfl : ∀ a, (f a).length ≤ 100000 := fun a => by rw [hfa]; exact hkl a
    refine run_loop (S := Nat × (Option Addr × Nat)) (fun st => [(0, .map (some wb)), (1, .int .i64 x), (2, .int .i64 (d : Int)), (7, .slice (some ⟨ob, 0, none⟩) 1 1), (8, .int .i64 (brBits (valW kn) (0 - x) st.1)), (9, .slice st.2.1 (brKids f st.1 (0 - x)).length st.2.2), (20, .int .i64 (st.1 : Int))])
      (fun st Γ => Γ = [SlA 3 1 (some ⟨ob, 0, none⟩) 1 1 [.int .i64 (d : Int)], SlA 3 1 st.2.1 (brKids f st.1 (0 - x)).length st.2.2 (intsV (brKids f st.1 (0 - x)))] ∧ st.1 ≤ 8) (fun st => 8 - st.1) (0, (none, 0)) ⟨rfl, rfl, rfl, rfl, rfl, rfl, rfl, trivial⟩ ⟨rfl, by decide⟩ ?_
    rintro ⟨i, ⟨a, c⟩⟩ Γ junk ⟨rfl, hi⟩
    dsimp only at hi ⊢
    by_cases hlt : i < 8
    · have hkd := hkid i (by omega) (by omega)
      have hsp := ih (valW kn (0 - x + i)) (d + 1) (by omega) (by omega) hkd
      have hvv : ((lookW kn (-x + i)).getD ⟨0, 0, 0⟩).val = valW kn (0 - x + i) := by rw [valW_getD]; congr 1; omega
      have hfi := hfa (0 - x + i)
      rw [← hfi] at hsp
      have hlen := brKids_len hfl i (0 - x)
      have hlf := hfl (0 - x + i)
      have hlo : (brKids f i (0 - x)).length ≤ 800000 := Nat.le_trans hlen (by omega)
      clear hlen
      have hbd := brBits_bd (valW kn) (0 - x) i
      have hor := or_pow hlt hbd.1 hbd.2
      have hbs : brBits (valW kn) (0 - x) (i + 1) = brBits (valW kn) (0 - x) i + (if valW kn (0 - x + i) = 0 then 0 else 2 ^ i) := rfl
      have hks := brKids_take f i (0 - x)
      generalize brBits (valW kn) (0 - x) i = b0 at hbd hor hbs
      generalize valW kn (0 - x + i) = v at hvv hsp hbs
      by_cases hv : v = 0
      · repeat (first | refine zck ?_ | refine zcl ?_ | refine zcm ?_ | refine zcn ?_)
        first | refine zcp (by kernel_rfl) ?_ | refine zcq PP_mixed (by kernel_rfl) (by kernel_rfl) ?_
        repeat' (refine zap rfl ?_; first | refine zbg rfl rfl (by omega) ?_)
        all_goals refine zch ?_
        all_goals repeat (first | refine zck ?_ | refine zcl ?_ | refine zcm ?_ | refine zcn ?_)
        refine zci rfl ?_
        repeat (first | refine zck ?_ | refine zcl ?_ | refine zcm ?_ | refine zcn ?_)
        first | refine zcp (by kernel_rfl) ?_ | refine zcq PP_mixed (by kernel_rfl) (by kernel_rfl) ?_
        repeat' (refine zap rfl ?_; first | refine zan rfl ?_ | refine zan rfl ?_)
        all_goals refine zch ?_
        all_goals repeat (first | refine zck ?_ | refine zcl ?_ | refine zcm ?_ | refine zcn ?_)
        repeat (first | refine zck ?_ | refine zcl ?_ | refine zcm ?_ | refine zcn ?_)
        first | refine zcp (by kernel_rfl) ?_ | refine zcq PP_mixed (by kernel_rfl) (by kernel_rfl) ?_
        repeat' (refine zap rfl ?_; first | refine reg_lookup_at (.head _) rfl rfl (valW_look kn _ _ rfl) ?_ | (refine reg_fieldV rfl rfl ?_; rw [hvv]) | refine reg_neg64 rfl (by omega) ?_ | refine zan rfl ?_ | refine zan rfl ?_ | refine zau rfl rfl (by omega) ?_)
        all_goals refine zch ?_
        all_goals repeat (first | refine zck ?_ | refine zcl ?_ | refine zcm ?_ | refine zcn ?_)
        repeat (first | refine zck ?_ | refine zcl ?_ | refine zcm ?_ | refine zcn ?_)
        first | refine zcp (by kernel_rfl) ?_ | refine zcq PP_mixed (by kernel_rfl) (by kernel_rfl) ?_
        repeat' (refine zap rfl ?_; first | refine zan rfl ?_ | refine zbf rfl rfl (by omega) ?_)
        all_goals refine zch ?_
        all_goals repeat (first | refine zck ?_ | refine zcl ?_ | refine zcm ?_ | refine zcn ?_)
        refine zcj rfl ?_
        repeat (first | refine zck ?_ | refine zcl ?_ | refine zcm ?_ | refine zcn ?_ | refine zco ?_)
        repeat (first | refine zck ?_ | refine zcl ?_ | refine zcm ?_ | refine zcn ?_)
        first | refine zcp (by kernel_rfl) ?_ | refine zcq PP_mixed (by kernel_rfl) (by kernel_rfl) ?_
        repeat' (refine zap rfl ?_; first | refine zan rfl ?_ | refine zan rfl ?_ | (refine zai [] hsp rfl rfl rfl (fun _ h => h) ?_; rintro v' Γ' ⟨a2, c2, rfl, rfl⟩) | refine reg_append_own (G := fun X a' cap' => [X, SlA 3 1 (some ⟨ob, 0, none⟩) 1 1 [.int .i64 (d : Int)], SlA 3 1 a' ((brKids f i (0 - x)).length + (f (0 - x + i)).length) cap' (intsV (brKids f i (0 - x)) ++ intsV (f (0 - x + i)))]) 2 0 rfl rfl rfl rfl (by decide) (intsV_one _) rfl (by first | omega | (dsimp only; omega)) (fun _ _ _ => rfl) (fun X a' c' => ?_) | refine zau rfl rfl (by omega) ?_)
        all_goals refine zch ?_
        all_goals repeat (first | refine zck ?_ | refine zcl ?_ | refine zcm ?_ | refine zcn ?_)
        refine run_take [1, 1] rfl ?_
        repeat (first | refine zck ?_ | refine zcl ?_ | refine zcm ?_ | refine zcn ?_)
        first | refine zcp (by kernel_rfl) ?_ | refine zcq PP_mixed (by kernel_rfl) (by kernel_rfl) ?_
        repeat' (refine zap rfl ?_; first | refine zan rfl ?_ | refine zau rfl rfl (by omega) ?_)
        all_goals refine zch ?_
        all_goals repeat (first | refine zck ?_ | refine zcl ?_ | refine zcm ?_ | refine zcn ?_)
        have el : (brKids f (i + 1) (0 - x)).length = (brKids f i (0 - x)).length + (f (0 - x + i)).length := by rw [hks, List.length_append]
        have ev : intsV (brKids f (i + 1) (0 - x)) = intsV (brKids f i (0 - x)) ++ intsV (f (0 - x + i)) := by rw [hks]; simp [intsV]
        refine cut_end ⟨rfl, (i + 1, (a', c')), ⟨rfl, rfl, rfl, rfl, int_eq (by dsimp only; rw [hbs]; rw [if_pos hv]; omega), congrArg (fun q => Value.slice a' q c') el.symm, int_eq (by dsimp only; omega), trivial⟩, ⟨?_, hlt⟩, by dsimp only; omega⟩
        dsimp only
        rw [el, ev]
      · repeat (first | refine zck ?_ | refine zcl ?_ | refine zcm ?_ | refine zcn ?_)
        first | refine zcp (by kernel_rfl) ?_ | refine zcq PP_mixed (by kernel_rfl) (by kernel_rfl) ?_
        repeat' (refine zap rfl ?_; first | refine zbg rfl rfl (by omega) ?_)
        all_goals refine zch ?_
        all_goals repeat (first | refine zck ?_ | refine zcl ?_ | refine zcm ?_ | refine zcn ?_)
        refine zci rfl ?_
        repeat (first | refine zck ?_ | refine zcl ?_ | refine zcm ?_ | refine zcn ?_)
        first | refine zcp (by kernel_rfl) ?_ | refine zcq PP_mixed (by kernel_rfl) (by kernel_rfl) ?_
        repeat' (refine zap rfl ?_; first | refine zan rfl ?_ | refine zan rfl ?_)
        all_goals refine zch ?_
        all_goals repeat (first | refine zck ?_ | refine zcl ?_ | refine zcm ?_ | refine zcn ?_)
        repeat (first | refine zck ?_ | refine zcl ?_ | refine zcm ?_ | refine zcn ?_)
        first | refine zcp (by kernel_rfl) ?_ | refine zcq PP_mixed (by kernel_rfl) (by kernel_rfl) ?_
        repeat' (refine zap rfl ?_; first | refine reg_lookup_at (.head _) rfl rfl (valW_look kn _ _ rfl) ?_ | (refine reg_fieldV rfl rfl ?_; rw [hvv]) | refine reg_neg64 rfl (by omega) ?_ | refine zan rfl ?_ | refine zan rfl ?_ | refine zau rfl rfl (by omega) ?_)
        all_goals refine zch ?_
        all_goals repeat (first | refine zck ?_ | refine zcl ?_ | refine zcm ?_ | refine zcn ?_)
        repeat (first | refine zck ?_ | refine zcl ?_ | refine zcm ?_ | refine zcn ?_)
        first | refine zcp (by kernel_rfl) ?_ | refine zcq PP_mixed (by kernel_rfl) (by kernel_rfl) ?_
        repeat' (refine zap rfl ?_; first | refine zan rfl ?_ | refine zbe rfl rfl (by omega) ?_)
        all_goals refine zch ?_
        all_goals repeat (first | refine zck ?_ | refine zcl ?_ | refine zcm ?_ | refine zcn ?_)
        refine zci rfl ?_
        repeat (first | refine zck ?_ | refine zcl ?_ | refine zcm ?_ | refine zcn ?_)
        first | refine zcp (by kernel_rfl) ?_ | refine zcq PP_mixed (by kernel_rfl) (by kernel_rfl) ?_
        repeat' (refine zap rfl ?_; first | refine reg_shlE (q := i) (r := 2 ^ i) rfl rfl (by show i ≤ 64; omega) (shl_one hlt) ?_ | refine reg_orE (r := b0 + 2 ^ i) rfl rfl hor ?_ | refine zan rfl ?_ | refine zan rfl ?_)
        all_goals refine zch ?_
        all_goals repeat (first | refine zck ?_ | refine zcl ?_ | refine zcm ?_ | refine zcn ?_)
        repeat (first | refine zck ?_ | refine zcl ?_ | refine zcm ?_ | refine zcn ?_ | refine zco ?_)
        repeat (first | refine zck ?_ | refine zcl ?_ | refine zcm ?_ | refine zcn ?_)
        first | refine zcp (by kernel_rfl) ?_ | refine zcq PP_mixed (by kernel_rfl) (by kernel_rfl) ?_
        repeat' (refine zap rfl ?_; first | refine zan rfl ?_ | refine zan rfl ?_ | (refine zai [] hsp rfl rfl rfl (fun _ h => h) ?_; rintro v' Γ' ⟨a2, c2, rfl, rfl⟩) | refine reg_append_own (G := fun X a' cap' => [X, SlA 3 1 (some ⟨ob, 0, none⟩) 1 1 [.int .i64 (d : Int)], SlA 3 1 a' ((brKids f i (0 - x)).length + (f (0 - x + i)).length) cap' (intsV (brKids f i (0 - x)) ++ intsV (f (0 - x + i)))]) 2 0 rfl rfl rfl rfl (by decide) (intsV_one _) rfl (by first | omega | (dsimp only; omega)) (fun _ _ _ => rfl) (fun X a' c' => ?_) | refine zau rfl rfl (by omega) ?_)
        all_goals refine zch ?_
        all_goals repeat (first | refine zck ?_ | refine zcl ?_ | refine zcm ?_ | refine zcn ?_)
        refine run_take [1, 1] rfl ?_
        repeat (first | refine zck ?_ | refine zcl ?_ | refine zcm ?_ | refine zcn ?_)
        first | refine zcp (by kernel_rfl) ?_ | refine zcq PP_mixed (by kernel_rfl) (by kernel_rfl) ?_
        repeat' (refine zap rfl ?_; first | refine zan rfl ?_ | refine zau rfl rfl (by omega) ?_)
        all_goals refine zch ?_
        all_goals repeat (first | refine zck ?_ | refine zcl ?_ | refine zcm ?_ | refine zcn ?_)
        have el : (brKids f (i + 1) (0 - x)).length = (brKids f i (0 - x)).length + (f (0 - x + i)).length := by rw [hks, List.length_append]
        have ev : intsV (brKids f (i + 1) (0 - x)) = intsV (brKids f i (0 - x)) ++ intsV (f (0 - x + i)) := by rw [hks]; simp [intsV]
        refine cut_end ⟨rfl, (i + 1, (a', c')), ⟨rfl, rfl, rfl, rfl, int_eq (by dsimp only; rw [hbs]; rw [if_neg hv]), congrArg (fun q => Value.slice a' q c') el.symm, int_eq (by dsimp only; omega), trivial⟩, ⟨?_, hlt⟩, by dsimp only; omega⟩
        dsimp only
        rw [el, ev]
    · have hi8 : i = 8 := by omega
      subst hi8
      repeat (first | refine zck ?_ | refine zcl ?_ | refine zcm ?_ | refine zcn ?_)
      first | refine zcp (by kernel_rfl) ?_ | refine zcq PP_mixed (by kernel_rfl) (by kernel_rfl) ?_
      repeat' (refine zap rfl ?_; first | refine zbh rfl rfl (by omega) ?_)
      all_goals refine zch ?_
      all_goals repeat (first | refine zck ?_ | refine zcl ?_ | refine zcm ?_ | refine zcn ?_)
      refine zcj rfl ?_
      refine cut_exit rfl rfl ?_
      repeat (first | refine zck ?_ | refine zcl ?_ | refine zcm ?_ | refine zcn ?_ | refine zco ?_)
      have hlen := brKids_len hfl 8 (0 - x)
      generalize brBits (valW kn) (0 - x) 8 = b0
      generalize brKids f 8 (0 - x) = L at hlen
      repeat (first | refine zck ?_ | refine zcl ?_ | refine zcm ?_ | refine zcn ?_)
      first | refine zcp (by kernel_rfl) ?_ | refine zcq PP_mixed (by kernel_rfl) (by kernel_rfl) ?_
      repeat' (refine zap rfl ?_; first | refine reg_buildSlice rfl rfl rfl rfl rfl rfl (fun nb2 => ?_) | refine reg_append 0 2 rfl rfl rfl rfl rfl rfl rfl rfl (by first | omega | (dsimp only; omega)) (fun _ _ => rfl) (fun a1' c1' => ?_) | refine zan rfl ?_ | refine zan rfl ?_ | refine reg_append_own (G := fun X a' cap' => [SlA 3 1 a' (1 + 1 + L.length) cap' ([.int .i64 (d : Int)] ++ [.int .i64 b0] ++ intsV L), X, pt nb2 (.cells (List.toArray [.int .i64 b0]) 3 (0, 0))]) 0 1 rfl rfl rfl rfl (by decide) (intsV_one _) rfl (by first | omega | (dsimp only; omega)) (fun _ _ _ => rfl) (fun X a2' c2' => ?_))
      all_goals refine zch ?_
      all_goals repeat (first | refine zck ?_ | refine zcl ?_ | refine zcm ?_ | refine zcn ?_)
      refine run_take [0] rfl ?_
      have e1 : 1 + 1 + L.length = ((d : Int) :: b0 :: L).length := by simp only [List.length_cons]; omega
      have e2 : [.int .i64 (d : Int)] ++ [.int .i64 b0] ++ intsV L = intsV ((d : Int) :: b0 :: L) := rfl
      exact ret_tmp1 rfl ⟨a2', c2', congrArg (fun q => Value.slice a2' q c2') e1, congrArg (fun (z : Nat × List Value) => [SlA 3 1 a2' z.1 c2' z.2]) (Prod.ext (x := (_, _)) (y := (_, _)) e1 e2)⟩
end Go.Proofs.YtloekplbhknepaaGreat

namespace Sim
open Go Go.Vc
def cntL (l : List Ri) (d : Nat) (p : Int) : Nat := (l.filter fun x => decide (pre x.h d = p)).length
def brBitsF (z : Int → Bool) : Nat → Int
  | 0 => 0
  | c + 1 => brBitsF z c + (if z c = true then 0 else 2 ^ c)
def brF (l : List Ri) : Nat → Nat → Int → List Int
  | 0, _, _ => []
  | k + 1, d, p => if d < 4 ∧ 2 ≤ cntL l d p then (d : Int) :: brBitsF (fun c => decide (cntL l (d + 1) (p + 8 ^ d * c) = 0)) 8 :: brKids (fun c => brF l k (d + 1) (p + 8 ^ d * c)) 8 0 else []
theorem brBits_eq {m : Int → Int} {a : Int} {z : Int → Bool} : ∀ c : Nat, (∀ i : Int, 0 ≤ i → i < c → (m (a + i) = 0 ↔ z i = true)) → brBits m a c = brBitsF z c
  | 0, _ => rfl
  | c + 1, h => by
    unfold brBits brBitsF
    rw [brBits_eq c fun i h0 h1 => h i h0 (by omega)]
    congr 1
    have := h c (by omega) (by omega)
    by_cases hz : z c = true
    · rw [if_pos hz, if_pos (this.2 hz)]
    · rw [if_neg hz, if_neg (fun e => hz (this.1 e))]
theorem brKids_eq {f g : Int → List Int} {b : Int} : ∀ (j : Nat) (i : Int), (∀ c : Int, i ≤ c → c < i + j → f (b + c) = g c) → brKids f j (b + i) = brKids g j i
  | 0, _, _ => rfl
  | j + 1, i, h => by
    unfold brKids
    rw [h i (Int.le_refl _) (by omega)]
    congr 1
    have := brKids_eq (f := f) (g := g) (b := b) j (i + 1) fun c h0 h1 => h c (by omega) (by omega)
    rw [← this]
    congr 1
    omega
theorem cnt_eq {I : List It} {l : List Ri} (hA : Ag I l) (d : Nat) (p : Int) : cntL l d p = (Fd d p I).length := by
  unfold cntL Fd
  rw [(hA.pm.filter _).length_eq, List.filter_map, List.length_map]
  rfl
theorem pre_kid {h c : Int} {d : Nat} (hd : d < 4) (hc : 0 ≤ c ∧ c < 8) : pre (pre h d + 8 ^ d * c) d = pre h d ∧ dig (pre h d + 8 ^ d * c) d = c ∧ pre (pre h d + 8 ^ d * c) (d + 1) = pre h d + 8 ^ d * c := by
  have hp := pre_pos h d
  generalize pre h d = p at hp
  unfold pre dig
  match d, hd with
  | 0, _ => simp at hp ⊢; omega
  | 1, _ => simp at hp ⊢; omega
  | 2, _ => simp at hp ⊢; omega
  | 3, _ => simp at hp ⊢; omega
section
variable {K : Int} {hs : Int → Int} {hv : Int → Bool} {m mm : Int → Int} {l : List Ri} {I : List It} {B : Br} {Q : List (Nat × Int)}
theorem vl_zero (S : Tsh K hs hv I B Q) (hT : Tr.Tight I B) (h : Int) (d : Nat) : vl B I h d = 0 ↔ (Fd d (pre h d) I).length = 0 := by
  unfold vl
  by_cases hb : B d (pre h d) = 0
  · rw [if_pos hb]
    cases hF : Fd d (pre h d) I with
    | nil => simp [hd]
    | cons x r =>
      have hx : x ∈ I := (mem_Fd.1 (by rw [hF]; exact List.mem_cons_self ..)).1
      have := Tsh.ndlo (S.ndL hx)
      simp only [hd, List.length_cons]
      omega
  · rw [if_neg hb]
    have := hT _ _ hb
    omega
theorem vl_neg (S : Tsh K hs hv I B Q) {h : Int} {d : Nat} (hb : B d (pre h d) = 0) : 0 ≤ vl B I h d := by
  unfold vl
  rw [if_pos hb]
  cases hF : Fd d (pre h d) I with
  | nil => exact Int.le_refl _
  | cons x r =>
    have hx : x ∈ I := (mem_Fd.1 (by rw [hF]; exact List.mem_cons_self ..)).1
    have := Tsh.ndlo (S.ndL hx)
    simp only [hd]
    omega
theorem cl_in (hK : 0 ≤ K ∧ K ≤ 60) (S : Tsh K hs hv I B Q) {h : Int} {d : Nat} (e : Ex B h d) : 0 ≤ cl B h d ∧ cl B h d < 544 := by
  rcases S.cl_nd e with ⟨_, h2⟩ | ⟨b, i, h1, _, h3, h4, h5⟩
  · rw [h2]; decide
  · have := Tsh.ndlo h1
    rw [h5]; omega
theorem brM_eq (hK : 0 ≤ K ∧ K ≤ 60) (S : Tsh K hs hv I B Q) (C : Tc m I B) (hT : Tr.Tight I B) (hA : Ag I l) (hmm : ∀ a, 0 ≤ a → a < 544 → mm a = m a) : ∀ (k d : Nat) (h : Int), d + k = 5 → Ex B h d →
    brM mm k (mm (cl B h d)) d = brF l k d (pre h d) ∧ BrOk mm k (mm (cl B h d)) d
  | 0, d, h, hdk, _ => ⟨rfl, .inr (by omega)⟩
  | k + 1, d, h, hdk, e => by
    have hr := cl_in hK S e
    have hd4 := S.ex_le e
    rw [hmm _ hr.1 hr.2, C.cell h d hd4 e]
    by_cases hb : B d (pre h d) = 0
    · have h0 := vl_neg S hb
      refine ⟨?_, .inl (.inl h0)⟩
      unfold brM brF
      rw [if_pos (.inl h0), if_neg]
      rintro ⟨h1, h2⟩
      rw [cnt_eq hA] at h2
      have := S.one d h h1 hb e
      omega
    · have hdl := (S.dom _ _ hb).1
      have hnd := Tsh.ndlo (S.ndB hb)
      have hv : vl B I h d = 0 - B d (pre h d) := by unfold vl; rw [if_neg hb]
      have hneg : ¬ (0 ≤ vl B I h d ∨ 3 < d) := by rw [hv]; omega
      have h2 := hT _ _ hb
      rw [← cnt_eq hA] at h2
      have hkid : ∀ c : Int, 0 ≤ c → c < 8 → ∃ h', pre h' (d + 1) = pre h d + 8 ^ d * c ∧ Ex B h' (d + 1) ∧ cl B h' (d + 1) = B d (pre h d) + c := fun c h0 h1 => by
        obtain ⟨e1, e2, e3⟩ := pre_kid (h := h) hdl ⟨h0, h1⟩
        refine ⟨_, e3, ?_, ?_⟩
        · show B d (pre _ d) ≠ 0
          rw [e1]; exact hb
        · show B d (pre _ d) + dig _ d = _
          rw [e1, e2]
      have e0 : 0 - (0 - B d (pre h d)) = B d (pre h d) := by omega
      constructor
      · unfold brM brF
        rw [if_neg hneg, if_pos ⟨hdl, h2⟩, hv, e0]
        congr 1
        congr 1
        · refine brBits_eq 8 fun i h0 h1 => ?_
          obtain ⟨h', g1, g2, g3⟩ := hkid i h0 h1
          have hr' := cl_in hK S g2
          rw [← g3, hmm _ hr'.1 hr'.2, C.cell h' (d + 1) (S.ex_le g2) g2, vl_zero S hT, g1, ← cnt_eq hA]
          exact (decide_eq_true_iff).symm
        · have := brKids_eq (f := fun a => brM mm k (mm a) (d + 1)) (g := fun c => brF l k (d + 1) (pre h d + 8 ^ d * c)) (b := B d (pre h d)) 8 0 fun c h0 h1 => by
            obtain ⟨h', g1, g2, g3⟩ := hkid c h0 (by omega)
            have := (brM_eq hK S C hT hA hmm k (d + 1) h' (by omega) g2).1
            rw [g3, g1] at this
            exact this
          rw [← this]
          congr 1
          omega
      · refine .inr ⟨by rw [hv]; omega, fun c h0 h1 => ?_⟩
        obtain ⟨h', g1, g2, g3⟩ := hkid c h0 h1
        have := (brM_eq hK S C hT hA hmm k (d + 1) h' (by omega) g2).2
        rw [g3] at this
        rw [hv, e0]
        exact this
theorem TOk.branches (hK : 0 ≤ K ∧ K ≤ 60) (h : TOk K hs hv m l) (hmm : ∀ a, 0 ≤ a → a < 544 → mm a = m a) : brM mm 5 (mm 16) 0 = brF l 5 0 0 ∧ BrOk mm 5 (mm 16) 0 := by
  obtain ⟨I, B, Q, M, hT, A⟩ := h
  have := brM_eq hK M.sh M.tc hT A hmm 5 0 0 rfl trivial
  rw [pre_zero] at this
  exact this
end
end Sim

namespace Sim
open Go Go.Vc
structure Bp (K : Int) (m : Int → Int) (l l' : List Ri) where
  e : Int
  m' : Int → Int
  ok : (e = 0 ∧ TOk K hsI (fun _ => true) m' l') ∨ (e = 9 ∧ K < (rnodes l' : Int) ∧ m' = m)
end Sim
namespace Go.Proofs.YtloekplbhknepaaGreat
open Go.Vc Sim
set_option maxHeartbeats 8000000
section
variable {m : Int → Int} {l : List Ri} {K : Int}
theorem shPut1 (w0 : World) (sh : Shared) (p tb kb vb eb : Nat) (hK : 0 ≤ K ∧ K ≤ 60) (h : TOk K hsI (fun _ => true) m l) (n v : Int) (htb : (tb, trC K) ∈ sh) (hkb : (kb, intC n) ∈ sh) (hvb : (vb, intC v) ∈ sh) (s : Sp) (hC : Cu 544 s s m 0) :
    Vc.Fn PP w0 sh 29 [spP p, ptr tb, ptr kb, ptr vb, ptr eb] [SpaceA p s, erB eb 0]
      (fun r Γ => ∃ (st : Bp K m l (rput l ⟨n, hsI n, v⟩)) (s' : Sp) (j : Nat), r = .tuple #[] ∧ Γ = [SpaceA p s', erB eb st.e] ∧ j ≤ 50000 ∧ Cu 544 s s' st.m' j) := by
  have hT := tI_ok hK
  have hmf : ∀ hF Γ w, Sh sh hF → St w0 hF Γ w → w.heap[tb]? = some (trC K) := fun hF Γ w h1 h2 => (h2.frame (h1 _ htb)).2
  have hmk : ∀ hF Γ w, Sh sh hF → St w0 hF Γ w → w.heap[kb]? = some (intC n) := fun hF Γ w h1 h2 => (h2.frame (h1 _ hkb)).2
  have hmv : ∀ hF Γ w, Sh sh hF → St w0 hF Γ w → w.heap[vb]? = some (intC v) := fun hF Γ w h1 h2 => (h2.frame (h1 _ hvb)).2
  refine fn_of_run en29 fn29 rfl rfl rfl ?_
  repeat' (first | refine zcp (by kernel_rfl) ?_ | (refine zap rfl ?_; first | refine zad rfl hmf rfl ?_ | refine zad rfl hmk rfl ?_ | refine zad rfl hmv rfl ?_ | refine zan rfl ?_ | (refine reg_callO [0] hC ((tI K).bd_put n (hsI n) v) (h.put hK n v ⟨rfl, (hsI_in n).1⟩) (by omega) (trPut w0 p (tI K) hT tI_isI n v) rfl rfl rfl sub_nil ?_; rintro x s2 m2 hx hC) | refine zan rfl ?_ | refine zae 1 rfl rfl rfl rfl rfl rfl rfl ?_) | refine zch ?_)
  have hx2 : (x.2 = 0 ∧ TOk K hsI (fun _ => true) m2 (rput l ⟨n, hsI n, v⟩)) ∨ (x.2 = 9 ∧ K < (rnodes (rput l ⟨n, hsI n, v⟩) : Int) ∧ m2 = m) := by
    rcases hx with ⟨e, _, h3⟩ | ⟨e, h2, h3⟩
    · exact .inl ⟨by rw [e], h3⟩
    · exact .inr ⟨by rw [e], h2, h3⟩
  exact run_nil (leaves_nil (ends_take [0, 0] rfl (ends_none rfl ⟨rfl, ⟨x.2, m2, hx2⟩, s2, _, rfl, rfl, by decide, hC⟩)))
theorem shPut (w0 : World) (sh : Shared) (wb tb : Nat) (hK : 0 ≤ K ∧ K ≤ 60) (kn : List (Int × Wd)) (N : Int) (hN : N ≤ 1000000) (hW : WM 544 N kn m) (h : TOk K hsI (fun _ => true) m l) (n v : Int) (htb : (tb, trC K) ∈ sh) :
    Vc.Fn PP w0 sh 28 [.map (some wb), .int .i64 n, .int .i64 v, ptr tb] [wdA wb kn]
      (fun r Γ => ∃ (st : Bp K m l (rput l ⟨n, hsI n, v⟩)) (nb : Nat) (kn2 : List (Int × Wd)), r = .tuple #[.map (some nb), .bool (decide (st.e = 0))] ∧ Γ = [wdA nb kn2] ∧ WM 544 (N + 1) kn2 st.m') := by
  refine fn_of_run en28 fn28 rfl rfl rfl ?_
  repeat (first | refine zck ?_ | refine zcl ?_ | refine zcm ?_ | refine zcn ?_)
  first | refine zcp (by kernel_rfl) ?_ | refine zcq PP_mixed (by kernel_rfl) (by kernel_rfl) ?_
  repeat' (refine zap rfl ?_; first | refine zan rfl ?_ | refine zaq (cs := [_]) rfl (fun nb => ?_))
  all_goals refine zch ?_
  all_goals repeat (first | refine zck ?_ | refine zcl ?_ | refine zcm ?_ | refine zcn ?_)
  rename_i kb
  revert nb; intro vb
  refine run_share [1] rfl ?_
  refine run_share [1] rfl ?_
  refine run_share [0] rfl ?_
  repeat (first | refine zck ?_ | refine zcl ?_ | refine zcm ?_ | refine zcn ?_)
  first | refine zcp (by kernel_rfl) ?_ | refine zcq PP_mixed (by kernel_rfl) (by kernel_rfl) ?_
  repeat' (refine zap rfl ?_; first | refine zar (fun nb => ?_))
  all_goals refine zch ?_
  all_goals repeat (first | refine zck ?_ | refine zcl ?_ | refine zcm ?_ | refine zcn ?_)
  revert nb; intro eb
  have hD := done_mem (σ := Bp K m l (rput l ⟨n, hsI n, v⟩)) w0 ((vb, intC v) :: (kb, intC n) :: sh) wb kn 544 N m hN hW 29 (List.toArray [ptr tb, ptr kb, ptr vb, ptr eb]) (erB eb 0) (fun st => erB eb st.e) (fun st => st.m')
    (fun p s hC _ => shPut1 w0 _ p tb kb vb eb hK h n v (.tail _ (.tail _ htb)) (.tail _ (.head _)) (.head _) s hC)
  repeat (first | refine zck ?_ | refine zcl ?_ | refine zcm ?_ | refine zcn ?_)
  first | refine zcp (by kernel_rfl) ?_ | refine zcq PP_mixed (by kernel_rfl) (by kernel_rfl) ?_
  repeat' (refine zap rfl ?_; first | refine zan rfl ?_ | refine zan rfl ?_ | (refine zai [0] hD rfl rfl rfl (fun _ h => h) ?_; rintro v' Γ' ⟨st, nb, wa, wl, wc, kn2, rfl, rfl, hW2⟩) | refine zan rfl ?_ | refine zan rfl ?_)
  all_goals refine zch ?_
  all_goals repeat (first | refine zck ?_ | refine zcl ?_ | refine zcm ?_ | refine zcn ?_)
  refine run_share [1] rfl ?_
  obtain ⟨e, m', hok⟩ := st
  dsimp only at hW2 ⊢
  have hval : Value.bool (decide (e = 0)) = .bool (decide (e = 0)) := rfl
  by_cases he : e = 0
  · repeat' (first | refine zcq PP_mixed (by kernel_rfl) (by kernel_rfl) ?_ | (refine zap rfl ?_; first | refine zaj rfl ?_ | refine zan rfl ?_ | refine zan rfl ?_ | refine zaa 0 rfl rfl rfl ?_ | refine zbc rfl rfl (by omega) ?_ | refine zbu rfl ?_) | refine zch ?_)
    exact run_ret (leaves_nil (ends_two rfl rfl rfl ⟨⟨e, m', hok⟩, nb, kn2, by dsimp only; rw [decide_eq_true he]; rfl, rfl, hW2⟩))
  · repeat' (first | refine zcq PP_mixed (by kernel_rfl) (by kernel_rfl) ?_ | (refine zap rfl ?_; first | refine zaj rfl ?_ | refine zan rfl ?_ | refine zan rfl ?_ | refine zaa 0 rfl rfl rfl ?_ | refine zbd rfl rfl (by omega) ?_ | refine zbu rfl ?_) | refine zch ?_)
    exact run_ret (leaves_nil (ends_two rfl rfl rfl ⟨⟨e, m', hok⟩, nb, kn2, by dsimp only; rw [decide_eq_false he]; rfl, rfl, hW2⟩))
structure Bq (K : Int) (l : List Ri) where
  m : Int → Int
  ok : TOk K hsI (fun _ => true) m l
theorem shDrop1 (w0 : World) (sh : Shared) (p tb kb : Nat) (hK : 0 ≤ K ∧ K ≤ 60) (h : TOk K hsI (fun _ => true) m l) (n : Int) (htb : (tb, trC K) ∈ sh) (hkb : (kb, intC n) ∈ sh) (s : Sp) (hC : Cu 544 s s m 0) :
    Vc.Fn PP w0 sh 30 [spP p, ptr tb, ptr kb] [SpaceA p s, StarsA []]
      (fun r Γ => ∃ (st : Bq K (rdrop l n)) (s' : Sp) (j : Nat), r = .tuple #[] ∧ Γ = [SpaceA p s', StarsA []] ∧ j ≤ 50000 ∧ Cu 544 s s' st.m j) := by
  have hT := tI_ok hK
  have hmf : ∀ hF Γ w, Sh sh hF → St w0 hF Γ w → w.heap[tb]? = some (trC K) := fun hF Γ w h1 h2 => (h2.frame (h1 _ htb)).2
  have hmk : ∀ hF Γ w, Sh sh hF → St w0 hF Γ w → w.heap[kb]? = some (intC n) := fun hF Γ w h1 h2 => (h2.frame (h1 _ hkb)).2
  refine fn_of_run en30 fn30 rfl rfl rfl ?_
  refine run_unpack [1] rfl ?_
  repeat' (first | refine zcp (by kernel_rfl) ?_ | (refine zap rfl ?_; first | refine zad rfl hmf rfl ?_ | refine zad rfl hmk rfl ?_ | refine zan rfl ?_ | (refine reg_callO [0] hC ((tI K).bd_drop hT n (hsI n)) (h.drop hK n) (by omega) (trDrop w0 p (tI K) hT tI_isI n) rfl rfl rfl sub_nil ?_; rintro x s2 m2 ⟨_, hx⟩ hC)) | refine zch ?_)
  exact run_nil (leaves_nil (ends_pack [0] rfl (ends_none rfl ⟨rfl, ⟨m2, hx⟩, s2, _, rfl, rfl, by decide, hC⟩)))
structure Bx where
  a1 : Option Addr
  c1 : Nat
  a2 : Option Addr
  c2 : Nat
abbrev LsI (a : Option Addr) (c : Nat) (l : List Int) : Asn := LstA 2 (.slice a l.length c) l
def Bx.A (x : Bx) (l : List Ri) (kb vb eb : Nat) : Asn := StarsA [slB kb x.a1 (l.map (·.n)).length x.c1, slB vb x.a2 (l.map (·.n)).length x.c2, erB eb 0, LsI x.a1 x.c1 (l.map (·.n)), LstA 2 (.slice x.a2 (l.map (·.n)).length x.c2) (l.map (·.v))]
theorem shWalk3 (w0 : World) (sh : Shared) (p tb kb vb eb : Nat) (hK : 0 ≤ K ∧ K ≤ 60) (h : TOk K hsI (fun _ => true) m l) (htb : (tb, trC K) ∈ sh) (s : Sp) (hC : Cu 544 s s m 0) :
    Vc.Fn PP w0 sh 31 [spP p, ptr tb, ptr kb, ptr vb, ptr eb] [SpaceA p s, StarsA [slB kb none 0 0, slB vb none 0 0, erB eb 0]]
      (fun r Γ => ∃ (st : Bx) (s' : Sp), r = .tuple #[] ∧ Γ = [SpaceA p s', st.A l kb vb eb] ∧ Cu 544 s s' m 0) := by
  have hT := tI_ok hK
  have hmf : ∀ hF Γ w, Sh sh hF → St w0 hF Γ w → w.heap[tb]? = some (trC K) := fun hF Γ w h1 h2 => (h2.frame (h1 _ htb)).2
  have l2 : (l.map (·.n)).length = (l.map (·.v)).length := by rw [List.length_map, List.length_map]
  refine fn_of_run en31 fn31 rfl rfl rfl ?_
  refine run_unpack [1] rfl ?_
  repeat' (first | refine zcp (by kernel_rfl) ?_ | (refine zap rfl ?_; first | refine zad rfl hmf rfl ?_ | refine zan rfl ?_ | (refine reg_callOX [3] hC (bd_walkS (tI K)) (walkS_ok hK h) (by omega) (trWalk w0 p (tI K) hT) rfl rfl rfl sub_nil ?_; rintro x s1 m1 v Γ1 ⟨ex, em⟩ hC ⟨a1, c1, a2, c2, rfl, rfl⟩; rw [em] at hC) | refine zan rfl ?_ | refine zae 3 rfl rfl rfl rfl rfl rfl rfl ?_ | refine zae 4 rfl rfl rfl rfl rfl rfl rfl ?_ | refine zae 5 rfl rfl rfl rfl rfl rfl rfl ?_) | refine zch ?_)
  have q1 : x.1.map (·.1) = l.map (·.n) := by rw [ex, List.map_map]; rfl
  have q2 : x.1.map (·.2) = l.map (·.v) := by rw [ex, List.map_map]; rfl
  have q3 : x.1.length = (l.map (·.n)).length := by rw [← q1, List.length_map]
  have q4 : x.2 = 0 := by rw [ex]
  rw [q1, q2, q3, q4]
  refine run_exch 1 _ rfl LstA.ofSl rfl ?_
  refine run_exch 2 (LstA 2 (.slice a2 (l.map (·.n)).length c2) (l.map (·.v))) rfl (fun g hg => ⟨a2, c2, by rw [← l2], by rw [← l2]; exact hg⟩) rfl ?_
  exact run_nil (leaves_nil (ends_pack [0, 2, 2, 2, 0, 0] rfl (ends_none rfl ⟨rfl, ⟨a1, c1, a2, c2⟩, s1, rfl, rfl, hC⟩)))
theorem shWalk4 (w0 : World) (sh : Shared) (p tb kb vb eb : Nat) (hK : 0 ≤ K ∧ K ≤ 60) (h : TOk K hsI (fun _ => true) m l) (htb : (tb, trC K) ∈ sh) (s : Sp) (hC : Cu 544 s s m 0) :
    Vc.Fn PP w0 sh 32 [spP p, ptr tb, ptr kb, ptr vb, ptr eb] [SpaceA p s, StarsA [slB kb none 0 0, slB vb none 0 0, erB eb 0]]
      (fun r Γ => ∃ (st : Bx) (s' : Sp), r = .tuple #[] ∧ Γ = [SpaceA p s', st.A l kb vb eb] ∧ Cu 544 s s' m 0) := by
  have hT := tI_ok hK
  have hmf : ∀ hF Γ w, Sh sh hF → St w0 hF Γ w → w.heap[tb]? = some (trC K) := fun hF Γ w h1 h2 => (h2.frame (h1 _ htb)).2
  have l2 : (l.map (·.n)).length = (l.map (·.v)).length := by rw [List.length_map, List.length_map]
  refine fn_of_run en32 fn32 rfl rfl rfl ?_
  refine run_unpack [1] rfl ?_
  repeat' (first | refine zcp (by kernel_rfl) ?_ | (refine zap rfl ?_; first | refine zad rfl hmf rfl ?_ | refine zan rfl ?_ | (refine reg_callOX [3] hC (bd_walkS (tI K)) (walkS_ok hK h) (by omega) (trWalk w0 p (tI K) hT) rfl rfl rfl sub_nil ?_; rintro x s1 m1 v Γ1 ⟨ex, em⟩ hC ⟨a1, c1, a2, c2, rfl, rfl⟩; rw [em] at hC) | refine zan rfl ?_ | refine zae 3 rfl rfl rfl rfl rfl rfl rfl ?_ | refine zae 4 rfl rfl rfl rfl rfl rfl rfl ?_ | refine zae 5 rfl rfl rfl rfl rfl rfl rfl ?_) | refine zch ?_)
  have q1 : x.1.map (·.1) = l.map (·.n) := by rw [ex, List.map_map]; rfl
  have q2 : x.1.map (·.2) = l.map (·.v) := by rw [ex, List.map_map]; rfl
  have q3 : x.1.length = (l.map (·.n)).length := by rw [← q1, List.length_map]
  have q4 : x.2 = 0 := by rw [ex]
  rw [q1, q2, q3, q4]
  refine run_exch 1 _ rfl LstA.ofSl rfl ?_
  refine run_exch 2 (LstA 2 (.slice a2 (l.map (·.n)).length c2) (l.map (·.v))) rfl (fun g hg => ⟨a2, c2, by rw [← l2], by rw [← l2]; exact hg⟩) rfl ?_
  exact run_nil (leaves_nil (ends_pack [0, 2, 2, 2, 0, 0] rfl (ends_none rfl ⟨rfl, ⟨a1, c1, a2, c2⟩, s1, rfl, rfl, hC⟩)))
theorem equal64_spec (w0 : World) (sh : Shared) (a b : Option Addr) (c c2 : Nat) (l : List Int) (ha : RdSl w0 sh encI 1 (.slice a l.length c) l) (hb : RdSl w0 sh encI 1 (.slice b l.length c2) l) (hlen : l.length ≤ 1000000000) :
    FnE PP w0 sh 33 [.slice a l.length c, .slice b l.length c2] [] (.bool true) [] := by
  refine fn_of_run en33 fn33 rfl rfl rfl ?_
  repeat (first | refine zck ?_ | refine zcl ?_ | refine zcm ?_ | refine zcn ?_)
  first | refine zcp (by kernel_rfl) ?_ | refine zcq PP_mixed (by kernel_rfl) (by kernel_rfl) ?_
  repeat' (refine zap rfl ?_; first | refine zan rfl ?_)
  all_goals refine zch ?_
  all_goals repeat (first | refine zck ?_ | refine zcl ?_ | refine zcm ?_ | refine zcn ?_)
  repeat (first | refine zck ?_ | refine zcl ?_ | refine zcm ?_ | refine zcn ?_)
  first | refine zcp (by kernel_rfl) ?_ | refine zcq PP_mixed (by kernel_rfl) (by kernel_rfl) ?_
  repeat' (refine zap rfl ?_; first | refine zan rfl ?_ | refine zce rfl ?_ | refine zbf rfl rfl (by omega) ?_)
  all_goals refine zch ?_
  all_goals repeat (first | refine zck ?_ | refine zcl ?_ | refine zcm ?_ | refine zcn ?_)
  refine zcj rfl ?_
  repeat (first | refine zck ?_ | refine zcl ?_ | refine zcm ?_ | refine zcn ?_ | refine zco ?_)
  repeat (first | refine zck ?_ | refine zcl ?_ | refine zcm ?_ | refine zcn ?_)
  first | refine zcp (by kernel_rfl) ?_ | refine zcq PP_mixed (by kernel_rfl) (by kernel_rfl) ?_
  repeat' (refine zap rfl ?_; first | refine zan rfl ?_ | refine zce rfl ?_)
  all_goals refine zch ?_
  all_goals repeat (first | refine zck ?_ | refine zcl ?_ | refine zcm ?_ | refine zcn ?_)
  refine run_loop (S := Nat) (fun i => [(0, .slice a l.length c), (1, .slice b l.length c2), (12, .int .i64 l.length), (13, .int .i64 (i : Int))])
    (fun i Γ => Γ = [] ∧ i ≤ l.length) (fun i => l.length - i) 0 ⟨rfl, rfl, rfl, rfl, trivial⟩ ⟨rfl, Nat.zero_le _⟩ ?_
  rintro i Γ junk ⟨rfl, hi⟩
  by_cases hlt : i < l.length
  · have hx : l[i]? = some l[i] := List.getElem?_eq_getElem hlt
    generalize l[i] = x at hx
    obtain ⟨bb, off, cc, TT, fr, e2, hm, hrd⟩ := ha.at hx
    obtain ⟨b2, off2, cc2, TT2, fr2, e3, hm2, hrd2⟩ := hb.at hx
    subst e2
    subst e3
    repeat' (first | refine zck ?_ | refine zcp (by kernel_rfl) ?_ | refine zcq PP_mixed (by kernel_rfl) (by kernel_rfl) ?_ | refine zcm ?_ | refine zcl ?_ | refine zcn ?_ | (refine zap rfl ?_; first | refine zad rfl hm (hrd _ (by omega)) ?_ | refine zad rfl hm2 (hrd2 _ (by omega)) ?_ | refine zan rfl ?_ | refine zan rfl ?_ | refine zbf rfl rfl (by omega) ?_ | refine zbg rfl rfl (by omega) ?_ | refine zau rfl rfl (by omega) ?_ | refine zas rfl rfl (by omega) ?_) | refine zch ?_ | refine zci rfl ?_ | refine zcj rfl ?_)
    exact cut_end ⟨rfl, i + 1, ⟨rfl, rfl, rfl, int_eq (by omega), trivial⟩, ⟨rfl, hlt⟩, by omega⟩
  · repeat' (first | refine zck ?_ | refine zcp (by kernel_rfl) ?_ | (refine zap rfl ?_; first | refine zbh rfl rfl (by omega) ?_) | refine zch ?_ | refine zcj rfl ?_)
    refine cut_exit rfl rfl ?_
    repeat' (first | refine zck ?_ | refine zcp (by kernel_rfl) ?_ | (refine zap rfl ?_; first | refine zan rfl ?_) | refine zch ?_)
    exact ret_tmp1 rfl ⟨rfl, rfl⟩
theorem equalI_spec (w0 : World) (sh : Shared) (a b : Option Addr) (c c2 : Nat) (l : List Int) (ha : RdSl w0 sh encI 1 (.slice a l.length c) l) (hb : RdSl w0 sh encI 1 (.slice b l.length c2) l) (hlen : l.length ≤ 1000000000) :
    FnE PP w0 sh 34 [.slice a l.length c, .slice b l.length c2] [] (.bool true) [] := by
  refine fn_of_run en34 fn34 rfl rfl rfl ?_
  repeat (first | refine zck ?_ | refine zcl ?_ | refine zcm ?_ | refine zcn ?_)
  first | refine zcp (by kernel_rfl) ?_ | refine zcq PP_mixed (by kernel_rfl) (by kernel_rfl) ?_
  repeat' (refine zap rfl ?_; first | refine zan rfl ?_)
  all_goals refine zch ?_
  all_goals repeat (first | refine zck ?_ | refine zcl ?_ | refine zcm ?_ | refine zcn ?_)
  repeat (first | refine zck ?_ | refine zcl ?_ | refine zcm ?_ | refine zcn ?_)
  first | refine zcp (by kernel_rfl) ?_ | refine zcq PP_mixed (by kernel_rfl) (by kernel_rfl) ?_
  repeat' (refine zap rfl ?_; first | refine zan rfl ?_ | refine zce rfl ?_ | refine zbf rfl rfl (by omega) ?_)
  all_goals refine zch ?_
  all_goals repeat (first | refine zck ?_ | refine zcl ?_ | refine zcm ?_ | refine zcn ?_)
  refine zcj rfl ?_
  repeat (first | refine zck ?_ | refine zcl ?_ | refine zcm ?_ | refine zcn ?_ | refine zco ?_)
  repeat (first | refine zck ?_ | refine zcl ?_ | refine zcm ?_ | refine zcn ?_)
  first | refine zcp (by kernel_rfl) ?_ | refine zcq PP_mixed (by kernel_rfl) (by kernel_rfl) ?_
  repeat' (refine zap rfl ?_; first | refine zan rfl ?_ | refine zce rfl ?_)
  all_goals refine zch ?_
  all_goals repeat (first | refine zck ?_ | refine zcl ?_ | refine zcm ?_ | refine zcn ?_)
  refine run_loop (S := Nat) (fun i => [(0, .slice a l.length c), (1, .slice b l.length c2), (12, .int .i64 l.length), (13, .int .i64 (i : Int))])
    (fun i Γ => Γ = [] ∧ i ≤ l.length) (fun i => l.length - i) 0 ⟨rfl, rfl, rfl, rfl, trivial⟩ ⟨rfl, Nat.zero_le _⟩ ?_
  rintro i Γ junk ⟨rfl, hi⟩
  by_cases hlt : i < l.length
  · have hx : l[i]? = some l[i] := List.getElem?_eq_getElem hlt
    generalize l[i] = x at hx
    obtain ⟨bb, off, cc, TT, fr, e2, hm, hrd⟩ := ha.at hx
    obtain ⟨b2, off2, cc2, TT2, fr2, e3, hm2, hrd2⟩ := hb.at hx
    subst e2
    subst e3
    repeat' (first | refine zck ?_ | refine zcp (by kernel_rfl) ?_ | refine zcq PP_mixed (by kernel_rfl) (by kernel_rfl) ?_ | refine zcm ?_ | refine zcl ?_ | refine zcn ?_ | (refine zap rfl ?_; first | refine zad rfl hm (hrd _ (by omega)) ?_ | refine zad rfl hm2 (hrd2 _ (by omega)) ?_ | refine zan rfl ?_ | refine zan rfl ?_ | refine zbf rfl rfl (by omega) ?_ | refine zbg rfl rfl (by omega) ?_ | refine zau rfl rfl (by omega) ?_ | refine zas rfl rfl (by omega) ?_) | refine zch ?_ | refine zci rfl ?_ | refine zcj rfl ?_)
    exact cut_end ⟨rfl, i + 1, ⟨rfl, rfl, rfl, int_eq (by omega), trivial⟩, ⟨rfl, hlt⟩, by omega⟩
  · repeat' (first | refine zck ?_ | refine zcp (by kernel_rfl) ?_ | (refine zap rfl ?_; first | refine zbh rfl rfl (by omega) ?_) | refine zch ?_ | refine zcj rfl ?_)
    refine cut_exit rfl rfl ?_
    repeat' (first | refine zck ?_ | refine zcp (by kernel_rfl) ?_ | (refine zap rfl ?_; first | refine zan rfl ?_) | refine zch ?_)
    exact ret_tmp1 rfl ⟨rfl, rfl⟩
end
end Go.Proofs.YtloekplbhknepaaGreat

namespace Sim
open Go Go.Vc
theorem up_ext : ∀ {l l' : List Ri}, Up l → Up l' → (∀ x, x ∈ l ↔ x ∈ l') → l = l'
  | [], [], _, _, _ => rfl
  | [], y :: r, _, _, h => absurd ((h y).2 (by simp)) (by simp)
  | x :: r, [], _, _, h => absurd ((h x).1 (by simp)) (by simp)
  | x :: r, y :: s, hl, hl', h => by
    obtain ⟨x1, x2⟩ := List.pairwise_cons.1 hl
    obtain ⟨y1, y2⟩ := List.pairwise_cons.1 hl'
    have hxy : x = y := by
      rcases List.mem_cons.1 ((h x).1 (by simp)) with e | e
      · exact e
      rcases List.mem_cons.1 ((h y).2 (by simp)) with e2 | e2
      · exact e2.symm
      have := x1 y e2; have := y1 x e; omega
    subst hxy
    rw [up_ext x2 y2 fun z => ?_]
    constructor
    · intro hz
      rcases List.mem_cons.1 ((h z).1 (by simp [hz])) with e | e
      · subst e; have := x1 z hz; omega
      · exact e
    · intro hz
      rcases List.mem_cons.1 ((h z).2 (by simp [hz])) with e | e
      · subst e; have := y1 z hz; omega
      · exact e
theorem rput_law {l : List Ri} (hl : Up l) (y : Ri) : Up (rput l y) ∧ ∀ x, x ∈ rput l y ↔ x = y ∨ (x ∈ l ∧ x.n ≠ y.n) := by
  obtain ⟨A, B, hAB, h1, h2, h3, h4⟩ := rfind_split y.n l
  subst hAB
  unfold rput
  rw [h1, List.take_left]
  cases hf : (rfind (A ++ B) y.n).2 with
  | true =>
    obtain ⟨z, B', rfl, hz⟩ := h3 hf
    obtain ⟨m1, m2, m3⟩ := up_mid hl
    rw [if_pos rfl, show A.length + 1 = (A ++ [z]).length by simp, show A ++ z :: B' = (A ++ [z]) ++ B' by simp, List.drop_left]
    refine ⟨?_, fun x => ?_⟩
    · rw [List.append_assoc]
      exact up_ins m3 h2 (fun b hb => by rw [← hz]; exact m2 b hb)
    · simp only [List.mem_append, List.mem_singleton]
      constructor
      · rintro ((h | h) | h)
        · exact .inr ⟨.inl (.inl h), by have := h2 x h; omega⟩
        · exact .inl h
        · exact .inr ⟨.inr h, by have := m2 x h; omega⟩
      · rintro (h | ⟨(h | h) | h, hne⟩)
        · exact .inl (.inr h)
        · exact .inl (.inl h)
        · subst h; exact absurd hz hne
        · exact .inr h
  | false =>
    have h5 := h4 hf hl
    rw [if_neg (by decide), List.drop_left]
    refine ⟨?_, fun x => ?_⟩
    · rw [List.append_assoc]
      exact up_ins hl h2 h5
    · simp only [List.mem_append, List.mem_singleton]
      constructor
      · rintro ((h | h) | h)
        · exact .inr ⟨.inl h, by have := h2 x h; omega⟩
        · exact .inl h
        · exact .inr ⟨.inr h, by have := h5 x h; omega⟩
      · rintro (h | ⟨h | h, _⟩)
        · exact .inl (.inr h)
        · exact .inl (.inl h)
        · exact .inr h
theorem rdrop_law {l : List Ri} (hl : Up l) (n : Int) : Up (rdrop l n) ∧ ∀ x, x ∈ rdrop l n ↔ x ∈ l ∧ x.n ≠ n := by
  obtain ⟨A, B, hAB, h1, h2, h3, h4⟩ := rfind_split n l
  subst hAB
  unfold rdrop
  rw [h1, List.take_left]
  cases hf : (rfind (A ++ B) n).2 with
  | true =>
    obtain ⟨z, B', rfl, hz⟩ := h3 hf
    obtain ⟨m1, m2, m3⟩ := up_mid hl
    rw [if_pos rfl, show A.length + 1 = (A ++ [z]).length by simp, show A ++ z :: B' = (A ++ [z]) ++ B' by simp, List.drop_left]
    refine ⟨m3, fun x => ?_⟩
    simp only [List.mem_append, List.mem_singleton]
    constructor
    · rintro (h | h)
      · exact ⟨.inl (.inl h), by have := h2 x h; omega⟩
      · exact ⟨.inr h, by have := m2 x h; omega⟩
    · rintro ⟨(h | h) | h, hne⟩
      · exact .inl h
      · subst h; exact absurd hz hne
      · exact .inr h
  | false =>
    have h5 := h4 hf hl
    rw [if_neg (by decide)]
    refine ⟨hl, fun x => ⟨fun h => ⟨h, ?_⟩, fun h => h.1⟩⟩
    rcases List.mem_append.1 h with h | h
    · have := h2 x h; omega
    · have := h5 x h; omega
def putAll (f : Int → Int) (ks : List Int) (l : List Ri) : List Ri := ks.foldl (fun l k => rput l ⟨k, hsI k, f k⟩) l
theorem putAll_law (f : Int → Int) : ∀ (ks : List Int) {l : List Ri}, Up l → Up (putAll f ks l) ∧ ∀ x, x ∈ putAll f ks l ↔ (x.n ∈ ks ∧ x = ⟨x.n, hsI x.n, f x.n⟩) ∨ (x ∈ l ∧ x.n ∉ ks)
  | [], l, h => ⟨h, fun x => by simp [putAll]⟩
  | k :: ks, l, h => by
    obtain ⟨h1, h2⟩ := rput_law h ⟨k, hsI k, f k⟩
    obtain ⟨h3, h4⟩ := putAll_law f ks h1
    refine ⟨h3, fun x => ?_⟩
    show x ∈ putAll f ks (rput l ⟨k, hsI k, f k⟩) ↔ _
    rw [h4, h2]
    simp only [List.mem_cons]
    constructor
    · rintro (⟨h5, h6⟩ | ⟨h5 | ⟨h5, h6⟩, h7⟩)
      · exact .inl ⟨.inr h5, h6⟩
      · subst h5; exact .inl ⟨.inl rfl, rfl⟩
      · exact .inr ⟨h5, fun h => h.elim h6 h7⟩
    · rintro (⟨h5, h6⟩ | ⟨h5, h6⟩)
      · by_cases hk : x.n ∈ ks
        · exact .inl ⟨hk, h6⟩
        · have hx : x.n = k := h5.resolve_right hk
          refine .inr ⟨.inl ?_, hk⟩
          rw [h6, hx]
      · exact .inr ⟨.inr ⟨h5, fun e => h6 (.inl e)⟩, fun e => h6 (.inr e)⟩
theorem putAll_snoc (f : Int → Int) (ks : List Int) (k : Int) (l : List Ri) : putAll f (ks ++ [k]) l = rput (putAll f ks l) ⟨k, hsI k, f k⟩ := by
  unfold putAll
  rw [List.foldl_append]
  rfl
theorem putAll_len (f : Int → Int) : ∀ (ks : List Int) (l : List Ri), (putAll f ks l).length ≤ l.length + ks.length
  | [], _ => Nat.le_refl _
  | k :: ks, l => by
    have h1 := putAll_len f ks (rput l ⟨k, hsI k, f k⟩)
    have h2 := rput_len l ⟨k, hsI k, f k⟩
    rw [List.length_cons]
    show (putAll f ks (rput l ⟨k, hsI k, f k⟩)).length ≤ _
    omega
def dropAll (stay : Int → Bool) (ks : List Int) (l : List Ri) : List Ri := ks.foldl (fun l k => if stay k = true then l else rdrop l k) l
theorem dropAll_law (stay : Int → Bool) : ∀ (ks : List Int) {l : List Ri}, Up l → Up (dropAll stay ks l) ∧ ∀ x, x ∈ dropAll stay ks l ↔ x ∈ l ∧ ¬ (x.n ∈ ks ∧ stay x.n = false)
  | [], l, h => ⟨h, fun x => by simp [dropAll]⟩
  | k :: ks, l, h => by
    have hstep : Up (if stay k = true then l else rdrop l k) ∧ ∀ x, x ∈ (if stay k = true then l else rdrop l k) ↔ x ∈ l ∧ ¬ (x.n = k ∧ stay k = false) := by
      by_cases hk : stay k = true
      · rw [if_pos hk]
        exact ⟨h, fun x => ⟨fun hx => ⟨hx, fun ⟨_, e⟩ => by rw [hk] at e; cases e⟩, fun hx => hx.1⟩⟩
      · rw [if_neg hk]
        obtain ⟨h1, h2⟩ := rdrop_law h k
        refine ⟨h1, fun x => ?_⟩
        rw [h2]
        have hk' : stay k = false := by simpa using hk
        exact ⟨fun ⟨a, b⟩ => ⟨a, fun e => b e.1⟩, fun ⟨a, b⟩ => ⟨a, fun e => b ⟨e, hk'⟩⟩⟩
    obtain ⟨h1, h2⟩ := hstep
    obtain ⟨h3, h4⟩ := dropAll_law stay ks h1
    refine ⟨h3, fun x => ?_⟩
    show x ∈ dropAll stay ks _ ↔ _
    rw [h4, h2]
    simp only [List.mem_cons]
    constructor
    · rintro ⟨⟨a, b⟩, c⟩
      refine ⟨a, ?_⟩
      rintro ⟨e | e, g⟩
      · exact b ⟨e, e ▸ g⟩
      · exact c ⟨e, g⟩
    · rintro ⟨a, b⟩
      exact ⟨⟨a, fun ⟨e, g⟩ => b ⟨.inl e, e ▸ g⟩⟩, fun ⟨e, g⟩ => b ⟨.inr e, g⟩⟩
theorem dropAll_snoc (stay : Int → Bool) (ks : List Int) (k : Int) (l : List Ri) : dropAll stay (ks ++ [k]) l = if stay k = true then dropAll stay ks l else rdrop (dropAll stay ks l) k := by
  unfold dropAll
  rw [List.foldl_append]
  rfl
theorem shapes_law {f g : Int → Int} {stay : Int → Bool} {ks rot os : List Int} (hrot : ∀ k, k ∈ rot ↔ k ∈ ks) (hst : ∀ k, stay k = true ↔ k ∈ ks) :
    dropAll stay os (putAll f rot (putAll g os [])) = putAll f ks [] := by
  have h0 : Up [] := List.Pairwise.nil
  obtain ⟨a1, a2⟩ := putAll_law f ks h0
  obtain ⟨b1, b2⟩ := putAll_law g os h0
  obtain ⟨c1, c2⟩ := putAll_law f rot b1
  obtain ⟨d1, d2⟩ := dropAll_law stay os c1
  refine up_ext d1 a1 fun x => ?_
  rw [d2, c2, b2, a2]
  simp only [hrot, List.not_mem_nil, false_and, or_false]
  constructor
  · rintro ⟨h | ⟨h1, h2⟩, h3⟩
    · exact h
    · refine absurd ⟨h1.1, ?_⟩ h3
      cases hs : stay x.n with
      | true => exact absurd ((hst _).1 hs) h2
      | false => rfl
  · rintro ⟨h1, h2⟩
    refine ⟨.inl ⟨h1, h2⟩, fun ⟨_, h3⟩ => ?_⟩
    rw [(hst _).2 h1] at h3
    cases h3
def rotL (ks : List Int) (t : Nat) : List Int := (List.range ks.length).map fun i => (ks[(i + t) % ks.length]?).getD 0
theorem rotL_len (ks : List Int) (t : Nat) : (rotL ks t).length = ks.length := by unfold rotL; simp
theorem rotL_at {ks : List Int} {t i : Nat} (h : i < ks.length) : (rotL ks t)[i]? = some ((ks[(i + t) % ks.length]?).getD 0) := by
  unfold rotL
  rw [List.getElem?_map, List.getElem?_range h]
  rfl
theorem rotL_mem (ks : List Int) (t : Nat) (k : Int) : k ∈ rotL ks t ↔ k ∈ ks := by
  unfold rotL
  rw [List.mem_map]
  constructor
  · rintro ⟨i, hi, rfl⟩
    rw [List.mem_range] at hi
    have hlt : (i + t) % ks.length < ks.length := Nat.mod_lt _ (by omega)
    rw [List.getElem?_eq_getElem hlt]
    exact List.getElem_mem hlt
  · intro hk
    obtain ⟨j, hj, rfl⟩ := List.mem_iff_getElem.1 hk
    have hn : 0 < ks.length := by omega
    refine ⟨(j + (ks.length - t % ks.length)) % ks.length, List.mem_range.2 (Nat.mod_lt _ hn), ?_⟩
    have e : ((j + (ks.length - t % ks.length)) % ks.length + t) % ks.length = j := by
      have ht := Nat.mod_lt t hn
      rw [Nat.mod_add_mod]
      have : j + (ks.length - t % ks.length) + t = j + (t - t % ks.length) + ks.length := by have := Nat.mod_le t ks.length; omega
      rw [this, Nat.add_mod_right]
      have hd : t - t % ks.length = ks.length * (t / ks.length) := by have := Nat.div_add_mod t ks.length; omega
      rw [hd, Nat.add_mul_mod_self_left, Nat.mod_eq_of_lt hj]
    rw [e, List.getElem?_eq_getElem hj]
    rfl
end Sim

