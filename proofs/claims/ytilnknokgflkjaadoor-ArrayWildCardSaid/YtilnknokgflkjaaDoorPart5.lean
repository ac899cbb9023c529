import Derived.Test.YtilnknokgflkjaaDoorPart3
import Derived.Test.YtilnknokgflkjaaDoorPart4
import Derived.Test.YtilnknokgflkjaaDoorPart1
import Derived.Test.YtilnknokgflkjaaDoorKit
/- Lemmas and walks for the claims of this seat (own work): Fa3 Fa4 Wi0 Wi1 Wi2 Rf0 La3 La4 Wi3. -/
/- Space.Reads. -/
namespace Go.Proofs.YtilnknokgflkjaaDoor
open Go.Vc Sim
theorem rdM_len : ∀ l : List Int, (rdM l).length = l.length
  | [] => rfl
  | _ :: l => by simp only [rdM, List.length_cons, rdM_len l]
theorem rdM_at : ∀ (l : List Int) (q : Nat), (rdM l)[q]? = (l[q]?).map fun a => (a, .bool true)
  | [], q => by simp [rdM]
  | a :: l, 0 => by simp [rdM]
  | a :: l, q + 1 => by simp only [rdM, List.getElem?_cons_succ, rdM_at l q]
def leI : Int → Int → Bool := fun x y => decide (x ≤ y)
theorem msort_perm {l l' : List Int} (h : l.Perm l') : l.mergeSort leI = l'.mergeSort leI := by
  have tr : ∀ a b c : Int, leI a b = true → leI b c = true → leI a c = true := fun a b c h1 h2 => by simp only [leI, decide_eq_true_eq] at *; omega
  have to : ∀ a b : Int, (leI a b || leI b a) = true := fun a b => by simp only [leI, Bool.or_eq_true, decide_eq_true_eq]; omega
  refine List.Perm.eq_of_pairwise (le := fun a b => leI a b = true) (fun a b _ _ h1 h2 => ?_) (List.pairwise_mergeSort tr to l) (List.pairwise_mergeSort tr to l') (((List.mergeSort_perm l leI).trans h).trans (List.mergeSort_perm l' leI).symm)
  simp only [leI, decide_eq_true_eq] at h1 h2
  omega
theorem seen_perm (l : List Int) (seen : List Nat) (out : List Int) (hnd : seen.Nodup) (hlt : ∀ q ∈ seen, q < l.length) (hall : ∀ q, q < l.length → q ∈ seen) (ho : out = seen.map fun q => l[q]!) : out.Perm l := by
  have h1 : seen.Perm (List.range l.length) := by
    rw [List.perm_ext_iff_of_nodup hnd List.nodup_range]
    intro q; rw [List.mem_range]; exact ⟨hlt q, hall q⟩
  have h2 : (List.range l.length).map (fun q => l[q]!) = l := by
    apply List.ext_getElem?
    intro i
    by_cases hi : i < l.length
    · simp [hi]
    · simp [hi]
  rw [ho]
  exact (h1.map _).trans (List.Perm.of_eq h2)
theorem cnt_nil : ∀ n, cnt n [] = n
  | 0 => rfl
  | n + 1 => by simp [cnt, cnt_nil n]
theorem cnt_all (s : List Nat) : ∀ n, (∀ q, q < n → q ∈ s) → cnt n s = 0
  | 0, _ => rfl
  | n + 1, h => by simp only [cnt, cnt_all s n (fun q hq => h q (by omega)), if_pos (h n (by omega))]
theorem rds_spec (w0 : World) (p : Nat) (s : Sp) (hlen : s.rd.length < 65536) :
    Vc.Fn PP w0 [] 41 [spP p] [SpaceA p s] fun v Γ => ∃ a cap, v = .slice a s.rd.length cap ∧ Γ = [SpaceA p s, SlA 24 1 a s.rd.length cap (intsV (s.rd.mergeSort leI))] := by
  refine fn_of_run en41 fn41 rfl rfl rfl ?_
  refine run_open [0] (SpaceParts p s) rfl (fun _ h => h) ?_
  rintro ⟨bk, br, sa, sc⟩
  refine run_nilslice 24 1 ?_
  repeat (first | refine zck ?_ | refine zcl ?_ | refine zcm ?_ | refine zcn ?_)
  first | refine zcp (by kernel_rfl) ?_ | refine zcq PP_mixed (by kernel_rfl) (by kernel_rfl) ?_
  repeat' (refine zap rfl ?_; first | ((with_reducible refine zcu ?_); refine zan rfl ?_) | ((with_reducible refine zcv ?_); refine zan rfl ?_) | ((with_reducible refine zcw ?_); first | refine zaa 0 rfl rfl rfl ?_ | refine zaa 1 rfl rfl rfl ?_ | refine zaa 2 rfl rfl rfl ?_ | refine zaa 3 rfl rfl rfl ?_ | refine zaa 4 rfl rfl rfl ?_ | refine zaa 5 rfl rfl rfl ?_ | refine zab 0 rfl rfl rfl ?_ | refine zab 1 rfl rfl rfl ?_ | refine zab 2 rfl rfl rfl ?_ | refine zab 3 rfl rfl rfl ?_ | refine zab 4 rfl rfl rfl ?_ | refine zab 5 rfl rfl rfl ?_) | ((with_reducible refine zcy ?_); refine zao rfl ?_) | ((with_reducible refine zcz ?_); refine zan rfl ?_) | ((with_reducible refine zda ?_); first | refine zbo rfl rfl ?_ | refine zaz rfl rfl ?_ | refine zbb rfl rfl ?_) | ((with_reducible refine zde ?_); refine zan rfl ?_))
  all_goals refine zch ?_
  all_goals repeat (first | refine zck ?_ | refine zcl ?_ | refine zcm ?_ | refine zcn ?_)
  repeat (first | refine zck ?_ | refine zcl ?_ | refine zcm ?_ | refine zcn ?_)
  first | refine zcp (by kernel_rfl) ?_ | refine zcq PP_mixed (by kernel_rfl) (by kernel_rfl) ?_
  repeat' (refine zap rfl ?_; first | ((with_reducible refine zcu ?_); refine zan rfl ?_) | ((with_reducible refine zcv ?_); refine zan rfl ?_) | ((with_reducible refine zcw ?_); first | refine zaa 0 rfl rfl rfl ?_ | refine zaa 1 rfl rfl rfl ?_ | refine zaa 2 rfl rfl rfl ?_ | refine zaa 3 rfl rfl rfl ?_ | refine zaa 4 rfl rfl rfl ?_ | refine zaa 5 rfl rfl rfl ?_ | refine zab 0 rfl rfl rfl ?_ | refine zab 1 rfl rfl rfl ?_ | refine zab 2 rfl rfl rfl ?_ | refine zab 3 rfl rfl rfl ?_ | refine zab 4 rfl rfl rfl ?_ | refine zab 5 rfl rfl rfl ?_) | ((with_reducible refine zcy ?_); refine zao rfl ?_) | ((with_reducible refine zcz ?_); refine zan rfl ?_) | ((with_reducible refine zda ?_); first | refine zbo rfl rfl ?_ | refine zaz rfl rfl ?_ | refine zbb rfl rfl ?_) | ((with_reducible refine zde ?_); refine zan rfl ?_))
  all_goals refine zch ?_
  all_goals repeat (first | refine zck ?_ | refine zcl ?_ | refine zcm ?_ | refine zcn ?_)
  repeat (first | refine zck ?_ | refine zcl ?_ | refine zcm ?_ | refine zcn ?_)
  first | refine zcp (by kernel_rfl) ?_ | refine zcq PP_mixed (by kernel_rfl) (by kernel_rfl) ?_
  repeat' (refine zap rfl ?_; first | ((with_reducible refine zcu ?_); refine zan rfl ?_) | ((with_reducible refine zcv ?_); refine zan rfl ?_) | ((with_reducible refine zcw ?_); first | refine zaa 0 rfl rfl rfl ?_ | refine zaa 1 rfl rfl rfl ?_ | refine zaa 2 rfl rfl rfl ?_ | refine zaa 3 rfl rfl rfl ?_ | refine zaa 4 rfl rfl rfl ?_ | refine zaa 5 rfl rfl rfl ?_ | refine zab 0 rfl rfl rfl ?_ | refine zab 1 rfl rfl rfl ?_ | refine zab 2 rfl rfl rfl ?_ | refine zab 3 rfl rfl rfl ?_ | refine zab 4 rfl rfl rfl ?_ | refine zab 5 rfl rfl rfl ?_) | ((with_reducible refine zcy ?_); refine zao rfl ?_) | ((with_reducible refine zcz ?_); refine zan rfl ?_) | ((with_reducible refine zda ?_); first | refine zbo rfl rfl ?_ | refine zaz rfl rfl ?_ | refine zbb rfl rfl ?_) | ((with_reducible refine zde ?_); refine zan rfl ?_))
  all_goals refine zch ?_
  all_goals repeat (first | refine zck ?_ | refine zcl ?_ | refine zcm ?_ | refine zcn ?_)
  refine zcj rfl ?_
  refine zcm ?_
  repeat (first | refine zck ?_ | refine zcl ?_ | refine zcm ?_ | refine zcn ?_)
  first | refine zcp (by kernel_rfl) ?_ | refine zcq PP_mixed (by kernel_rfl) (by kernel_rfl) ?_
  repeat' (refine zap rfl ?_; first | refine reg_range 2 rfl rfl (fun nb => ?_) | ((with_reducible refine zcu ?_); refine zan rfl ?_) | ((with_reducible refine zcv ?_); refine zan rfl ?_) | ((with_reducible refine zcw ?_); first | refine zaa 0 rfl rfl rfl ?_ | refine zaa 1 rfl rfl rfl ?_ | refine zaa 2 rfl rfl rfl ?_ | refine zaa 3 rfl rfl rfl ?_ | refine zaa 4 rfl rfl rfl ?_ | refine zaa 5 rfl rfl rfl ?_ | refine zab 0 rfl rfl rfl ?_ | refine zab 1 rfl rfl rfl ?_ | refine zab 2 rfl rfl rfl ?_ | refine zab 3 rfl rfl rfl ?_ | refine zab 4 rfl rfl rfl ?_ | refine zab 5 rfl rfl rfl ?_) | ((with_reducible refine zcy ?_); refine zao rfl ?_) | ((with_reducible refine zcz ?_); refine zan rfl ?_) | ((with_reducible refine zda ?_); first | refine zbo rfl rfl ?_ | refine zaz rfl rfl ?_ | refine zbb rfl rfl ?_) | ((with_reducible refine zde ?_); refine zan rfl ?_))
  all_goals refine zch ?_
  all_goals repeat (first | refine zck ?_ | refine zcl ?_ | refine zcm ?_ | refine zcn ?_)
  refine run_loop (S := Option Addr × Nat × List Nat) (fun st => [(3, .slice st.1 st.2.2.length st.2.1), (12, .pointer (some ⟨nb, 0, none⟩))])
    (fun st Γ => Γ = SpaceParts p s (bk, br, sa, sc) ++ [SlA 24 1 st.1 st.2.2.length st.2.1 (intsV (st.2.2.map fun q => s.rd[q]!)), pt nb (iterI br (rdM s.rd).length st.2.2 (rdM s.rd).length)] ∧ st.2.2.Nodup ∧ (∀ q ∈ st.2.2, q < s.rd.length) ∧ cnt s.rd.length st.2.2 + st.2.2.length = s.rd.length)
    (fun st => cnt s.rd.length st.2.2) (none, 0, []) ⟨rfl, rfl, trivial⟩ ⟨rfl, List.nodup_nil, by simp, by simp [cnt_nil]⟩ ?_
  rintro ⟨a, cap, seen⟩ Γ junk ⟨rfl, h1, h2, h3⟩
  dsimp only at h1 h2 h3 ⊢
  repeat (first | refine zck ?_ | refine zcl ?_ | refine zcm ?_ | refine zcn ?_ | refine zco ?_)
  refine zcp (by kernel_rfl) ?_
  refine zap rfl ?_
  refine reg_next 5 2 rfl rfl (pt_know 2 rfl) rfl (fun _ => rfl) (fun hall => ?_) (fun q e hq hns => ?_)
  · repeat' (first | refine zck ?_ | refine zcp (by kernel_rfl) ?_ | refine zcq PP_mixed (by kernel_rfl) (by kernel_rfl) ?_ | refine zcm ?_ | refine zcl ?_ | refine zcn ?_ | refine zco ?_ | refine zcs rfl ?_ | (refine zap rfl ?_; first | ((with_reducible refine zcu ?_); refine zan rfl ?_) | ((with_reducible refine zcv ?_); refine zan rfl ?_) | ((with_reducible refine zcw ?_); first | refine zaa 0 rfl rfl rfl ?_ | refine zaa 1 rfl rfl rfl ?_ | refine zaa 2 rfl rfl rfl ?_ | refine zaa 3 rfl rfl rfl ?_ | refine zaa 4 rfl rfl rfl ?_ | refine zaa 5 rfl rfl rfl ?_ | refine zab 0 rfl rfl rfl ?_ | refine zab 1 rfl rfl rfl ?_ | refine zab 2 rfl rfl rfl ?_ | refine zab 3 rfl rfl rfl ?_ | refine zab 4 rfl rfl rfl ?_ | refine zab 5 rfl rfl rfl ?_) | ((with_reducible refine zcy ?_); refine zao rfl ?_) | ((with_reducible refine zcz ?_); refine zan rfl ?_) | ((with_reducible refine zda ?_); first | refine zbo rfl rfl ?_ | refine zaz rfl rfl ?_ | refine zbb rfl rfl ?_) | ((with_reducible refine zde ?_); refine zan rfl ?_)) | refine zch ?_ | refine zci rfl ?_ | refine zcj rfl ?_)
    refine cut_exit rfl rfl ?_
    have hn : seen.length = s.rd.length := by
      rw [rdM_len] at hall
      have := cnt_all seen s.rd.length hall
      omega
    have hperm := seen_perm s.rd seen _ h1 h2 (by rw [rdM_len] at hall; exact hall) rfl
    have hS := sort_spec w0 a s.rd.length cap (seen.map fun q => s.rd[q]!) hlen (by rw [List.length_map, hn])
    rw [hn]
    repeat' (first | refine zck ?_ | refine zcp (by kernel_rfl) ?_ | refine zcq PP_mixed (by kernel_rfl) (by kernel_rfl) ?_ | refine zcm ?_ | refine zcl ?_ | refine zcn ?_ | refine zco ?_ | refine zcs rfl ?_ | (refine zap rfl ?_; first | ((with_reducible refine zcu ?_); refine zan rfl ?_) | ((with_reducible refine zcv ?_); refine zan rfl ?_) | ((with_reducible refine zcw ?_); first | refine zaa 0 rfl rfl rfl ?_ | refine zaa 1 rfl rfl rfl ?_ | refine zaa 2 rfl rfl rfl ?_ | refine zaa 3 rfl rfl rfl ?_ | refine zaa 4 rfl rfl rfl ?_ | refine zaa 5 rfl rfl rfl ?_ | refine zab 0 rfl rfl rfl ?_ | refine zab 1 rfl rfl rfl ?_ | refine zab 2 rfl rfl rfl ?_ | refine zab 3 rfl rfl rfl ?_ | refine zab 4 rfl rfl rfl ?_ | refine zab 5 rfl rfl rfl ?_) | ((with_reducible refine zcx ?_); refine zah [4] hS rfl rfl rfl sub_nil rfl ?_) | ((with_reducible refine zcy ?_); refine zao rfl ?_) | ((with_reducible refine zcz ?_); refine zan rfl ?_) | ((with_reducible refine zda ?_); first | refine zbo rfl rfl ?_ | refine zaz rfl rfl ?_ | refine zbb rfl rfl ?_) | ((with_reducible refine zde ?_); refine zan rfl ?_)) | refine zch ?_ | refine zci rfl ?_ | refine zcj rfl ?_)
    refine run_close (A := SpaceA p s) [1, 1, 1, 1] rfl (fun _ h => ⟨(bk, br, sa, sc), h⟩) ?_
    refine run_take [0, 0] rfl ?_
    refine ret_tmp1 rfl ⟨a, cap, rfl, ?_⟩
    rw [← msort_perm hperm]; rfl
  · rw [rdM_at] at hq
    obtain ⟨x, hx, rfl⟩ : ∃ x, s.rd[q]? = some x ∧ e = (x, .bool true) := by
      cases h : s.rd[q]? with
      | none => rw [h] at hq; cases hq
      | some x => rw [h] at hq; exact ⟨x, rfl, (Option.some.inj hq).symm⟩
    have hql := (List.getElem?_eq_some_iff.1 hx).1
    have hq3 : (rdM s.rd)[q]? = some (x, .bool true) := by rw [rdM_at, hx]; rfl
    repeat' (refine zap rfl ?_; first | ((with_reducible refine zcu ?_); refine zan rfl ?_) | ((with_reducible refine zcv ?_); refine zan rfl ?_) | ((with_reducible refine zcw ?_); first | refine zaa 0 rfl rfl rfl ?_ | refine zaa 1 rfl rfl rfl ?_ | refine zaa 2 rfl rfl rfl ?_ | refine zaa 3 rfl rfl rfl ?_ | refine zaa 4 rfl rfl rfl ?_ | refine zaa 5 rfl rfl rfl ?_ | refine zab 0 rfl rfl rfl ?_ | refine zab 1 rfl rfl rfl ?_ | refine zab 2 rfl rfl rfl ?_ | refine zab 3 rfl rfl rfl ?_ | refine zab 4 rfl rfl rfl ?_ | refine zab 5 rfl rfl rfl ?_) | ((with_reducible refine zcy ?_); refine zao rfl ?_) | ((with_reducible refine zcz ?_); refine zan rfl ?_) | ((with_reducible refine zda ?_); first | refine zbo rfl rfl ?_ | refine zaz rfl rfl ?_ | refine zbb rfl rfl ?_) | ((with_reducible refine zde ?_); refine zan rfl ?_))
    refine zch ?_
    repeat (first | refine zck ?_ | refine zcl ?_ | refine zcm ?_ | refine zcn ?_ | refine zco ?_)
    refine zci rfl ?_
    repeat (first | refine zck ?_ | refine zcl ?_ | refine zcm ?_ | refine zcn ?_ | refine zco ?_)
    repeat (first | refine zck ?_ | refine zcl ?_ | refine zcm ?_ | refine zcn ?_)
    first | refine zcp (by kernel_rfl) ?_ | refine zcq PP_mixed (by kernel_rfl) (by kernel_rfl) ?_
    repeat' (refine zap rfl ?_; first | refine reg_entry 5 rfl rfl (pt_know 2 rfl) hq3 ?_ | ((with_reducible refine zcu ?_); refine zan rfl ?_) | ((with_reducible refine zcv ?_); refine zan rfl ?_) | ((with_reducible refine zcw ?_); first | refine zaa 0 rfl rfl rfl ?_ | refine zaa 1 rfl rfl rfl ?_ | refine zaa 2 rfl rfl rfl ?_ | refine zaa 3 rfl rfl rfl ?_ | refine zaa 4 rfl rfl rfl ?_ | refine zaa 5 rfl rfl rfl ?_ | refine zab 0 rfl rfl rfl ?_ | refine zab 1 rfl rfl rfl ?_ | refine zab 2 rfl rfl rfl ?_ | refine zab 3 rfl rfl rfl ?_ | refine zab 4 rfl rfl rfl ?_ | refine zab 5 rfl rfl rfl ?_) | ((with_reducible refine zcy ?_); refine zao rfl ?_) | ((with_reducible refine zcz ?_); refine zan rfl ?_) | ((with_reducible refine zda ?_); first | refine zbo rfl rfl ?_ | refine zaz rfl rfl ?_ | refine zbb rfl rfl ?_) | ((with_reducible refine zde ?_); refine zan rfl ?_))
    all_goals refine zch ?_
    all_goals repeat (first | refine zck ?_ | refine zcl ?_ | refine zcm ?_ | refine zcn ?_)
    repeat' (first | refine zck ?_ | refine zcp (by kernel_rfl) ?_ | refine zcq PP_mixed (by kernel_rfl) (by kernel_rfl) ?_ | refine zcm ?_ | refine zcl ?_ | refine zcn ?_ | refine zco ?_ | refine zcs rfl ?_ | (refine zap rfl ?_; first | refine reg_buildSlice rfl rfl rfl rfl rfl rfl (fun nb => ?_) | refine reg_append 4 6 rfl rfl rfl rfl rfl rfl rfl rfl (by omega) (fun _ _ => rfl) (fun a' cap' => ?_) | ((with_reducible refine zcu ?_); refine zan rfl ?_) | ((with_reducible refine zcv ?_); refine zan rfl ?_) | ((with_reducible refine zcw ?_); first | refine zaa 0 rfl rfl rfl ?_ | refine zaa 1 rfl rfl rfl ?_ | refine zaa 2 rfl rfl rfl ?_ | refine zaa 3 rfl rfl rfl ?_ | refine zaa 4 rfl rfl rfl ?_ | refine zaa 5 rfl rfl rfl ?_ | refine zab 0 rfl rfl rfl ?_ | refine zab 1 rfl rfl rfl ?_ | refine zab 2 rfl rfl rfl ?_ | refine zab 3 rfl rfl rfl ?_ | refine zab 4 rfl rfl rfl ?_ | refine zab 5 rfl rfl rfl ?_) | ((with_reducible refine zcy ?_); refine zao rfl ?_) | ((with_reducible refine zcz ?_); refine zan rfl ?_) | ((with_reducible refine zda ?_); first | refine zbo rfl rfl ?_ | refine zaz rfl rfl ?_ | refine zbb rfl rfl ?_) | ((with_reducible refine zde ?_); refine zan rfl ?_)) | refine zch ?_ | refine zci rfl ?_ | refine zcj rfl ?_)
    refine run_take [0, 0, 0, 0, 0, 0] rfl ?_
    have hx2 : s.rd[q]! = x := by simp [List.getElem!_eq_getElem?_getD, hx]
    have e1 : (seen ++ [q]).length = seen.length + 1 := by simp
    have e2 : intsV ((seen ++ [q]).map fun q => s.rd[q]!) = intsV (seen.map fun q => s.rd[q]!) ++ [.int .i64 x] := by simp only [intsV, List.map_append, List.map_cons, List.map_nil, hx2]
    have e3 := (cnt_more q seen hns s.rd.length).2 hql
    refine cut_end ⟨rfl, (a', cap', seen ++ [q]), ⟨by dsimp only; rw [e1]; rfl, rfl, trivial⟩, ⟨?_, ?_, ?_, by dsimp only; omega⟩, by dsimp only; omega⟩
    · dsimp only; rw [e1, e2]; rfl
    · dsimp only
      rw [List.nodup_append]
      exact ⟨h1, by simp, by intro a ha b hb; simp at hb; subst hb; intro e; subst e; exact hns ha⟩
    · intro q' hq'
      rcases List.mem_append.1 hq' with h | h
      · exact h2 q' h
      · simp at h; subst h; exact hql
end Go.Proofs.YtilnknokgflkjaaDoor

/- Space.Entries. -/
namespace Go.Proofs.YtilnknokgflkjaaDoor
open Go.Vc Sim
theorem ints_rd {l : List Int} {i : Nat} {x : Int} (h : l[i]? = some x) (o : Nat) (ho : o = i) : rd false 1 (intsV l) o = some (.int .i64 x) :=
  rd_one (c := (intsV l).toArray) (o := i) (by simp [intsV, h]) o ho
theorem flatE_append : ∀ a b : List En, flatE (a ++ b) = flatE a ++ flatE b
  | [], _ => rfl
  | e :: a, b => by simp only [List.cons_append, flatE, flatE_append a b, List.append_assoc]
def oldW (s : Sp) (x : Int) : Wd := match lookW s.kn x with | some w => w | none => ⟨0, 0, 0⟩
def entE (s : Sp) (x : Int) : En := ⟨x, oldW s x, (s.value x).1, (s.value x).2⟩
def esOf (s : Sp) : List En := (s.rd.mergeSort leI).map (entE s)
def Sp.entries (s : Sp) : List En × Int :=
  if s.ended = true then ([], 13) else if (esOf s).length = 0 then ([], 0) else if checkI (esOf s) ≠ 0 then ([], checkI (esOf s)) else (esOf s, 0)
/-- A cut behind which a state stands. -/
theorem run_bind_eq2 {P : Program} {w0 : World} {n : Nat} {sh : Shared} {Q : Exit → Env → List Deferred → List Asn → Prop} {k : List Item} {ρ : Env} {df : List Deferred} {Γ : List Asn} {σ : Type} {c : Code} {l' : σ → List (Nat × Value)} {Γ' : σ → List Asn}
    (h : Run P w0 n sh (cutE P w0 n sh Q k fun ρ' df' Γ2 => df' = df ∧ ∃ st, AllAt ρ' (l' st) ∧ Γ2 = Γ' st) [.code c] ρ df Γ)
    (hk : ∀ st junk, Run P w0 n sh Q k (mkE (l' st) junk) df (Γ' st)) : Run P w0 n sh Q (.code c :: k) ρ df Γ :=
  run_cut _ h fun ρ' df' Γ2 ⟨h1, st, h2, h3⟩ => by
    subst h1; subst h3
    have := hk st ρ'
    rwa [mkE_self h2] at this
set_option maxHeartbeats 4000000
theorem ents_spec (w0 : World) (p : Nat) (s : Sp) (hlen : s.rd.length < 65536) (hp : s.puts.length ≤ 1099511627776) (hk : ∀ x w, lookW s.kn x = some w → w.ref = 0) :
    Vc.Fn PP w0 [] 23 [spP p] [SpaceA p s] fun v Γ => ∃ a cap, v = .tuple #[.slice a (Sp.entries s).1.length cap, .int .i64 (Sp.entries s).2] ∧ Γ = [SpaceA p s, EnA a cap (Sp.entries s).1] := by
  refine fn_of_run en23 fn23 rfl rfl rfl ?_
  unfold Sp.entries
  repeat' (first | refine zck ?_ | refine zcp (by kernel_rfl) ?_ | refine zcq PP_mixed (by kernel_rfl) (by kernel_rfl) ?_ | refine zcm ?_ | refine zcl ?_ | refine zcn ?_ | refine zco ?_ | refine zcs rfl ?_ | (refine zap rfl ?_; first | ((with_reducible refine zcu ?_); refine zan rfl ?_) | ((with_reducible refine zcv ?_); refine zan rfl ?_) | ((with_reducible refine zcw ?_); first | refine zaa 0 rfl rfl rfl ?_ | refine zaa 1 rfl rfl rfl ?_ | refine zaa 2 rfl rfl rfl ?_ | refine zaa 3 rfl rfl rfl ?_ | refine zaa 4 rfl rfl rfl ?_ | refine zaa 5 rfl rfl rfl ?_ | refine zab 0 rfl rfl rfl ?_ | refine zab 1 rfl rfl rfl ?_ | refine zab 2 rfl rfl rfl ?_ | refine zab 3 rfl rfl rfl ?_ | refine zab 4 rfl rfl rfl ?_ | refine zab 5 rfl rfl rfl ?_) | ((with_reducible refine zcx ?_); first | refine zah [0] (ended_spec w0 p s) rfl rfl rfl sub_nil rfl ?_ | refine zce rfl ?_) | ((with_reducible refine zcy ?_); refine zao rfl ?_) | ((with_reducible refine zcz ?_); refine zan rfl ?_) | ((with_reducible refine zda ?_); first | refine zau rfl rfl (by omega) ?_ | refine zbo rfl rfl ?_ | refine zbp rfl rfl ?_ | refine zbq rfl rfl ?_ | refine zaz rfl rfl ?_ | refine zbb rfl rfl ?_ | refine zba rfl rfl ?_) | ((with_reducible refine zde ?_); refine zan rfl ?_) | ((with_reducible refine zdf ?_); first | refine zas rfl rfl (by omega) ?_ | refine zat rfl rfl (by omega) ?_) | refine zcb rfl ?_) | refine zch ?_ | refine zci rfl ?_ | refine zcj rfl ?_)
  refine run_condV rfl (fun hE => ?_) (fun hE => ?_)
  · rw [if_pos hE]
    repeat' (first | refine zck ?_ | refine zcp (by kernel_rfl) ?_ | refine zcq PP_mixed (by kernel_rfl) (by kernel_rfl) ?_ | refine zcm ?_ | refine zcl ?_ | refine zcn ?_ | refine zco ?_ | refine zcs rfl ?_ | (refine zap rfl ?_; first | ((with_reducible refine zcu ?_); refine zan rfl ?_) | ((with_reducible refine zcv ?_); refine zan rfl ?_) | ((with_reducible refine zcw ?_); first | refine zaa 0 rfl rfl rfl ?_ | refine zaa 1 rfl rfl rfl ?_ | refine zaa 2 rfl rfl rfl ?_ | refine zaa 3 rfl rfl rfl ?_ | refine zaa 4 rfl rfl rfl ?_ | refine zaa 5 rfl rfl rfl ?_ | refine zab 0 rfl rfl rfl ?_ | refine zab 1 rfl rfl rfl ?_ | refine zab 2 rfl rfl rfl ?_ | refine zab 3 rfl rfl rfl ?_ | refine zab 4 rfl rfl rfl ?_ | refine zab 5 rfl rfl rfl ?_) | ((with_reducible refine zcx ?_); refine zce rfl ?_) | ((with_reducible refine zcy ?_); refine zao rfl ?_) | ((with_reducible refine zcz ?_); refine zan rfl ?_) | ((with_reducible refine zda ?_); first | refine zau rfl rfl (by omega) ?_ | refine zbo rfl rfl ?_ | refine zbp rfl rfl ?_ | refine zbq rfl rfl ?_ | refine zaz rfl rfl ?_ | refine zbb rfl rfl ?_ | refine zba rfl rfl ?_) | ((with_reducible refine zde ?_); refine zan rfl ?_) | ((with_reducible refine zdf ?_); first | refine zas rfl rfl (by omega) ?_ | refine zat rfl rfl (by omega) ?_) | refine zcb rfl ?_) | refine zch ?_ | refine zci rfl ?_ | refine zcj rfl ?_)
    refine run_nilslice 66 6 ?_
    exact ret_tmp2 rfl ⟨none, 0, rfl, rfl⟩
  · rw [if_neg (by rw [hE]; exact Bool.false_ne_true)]
    obtain ⟨L, hL⟩ : ∃ L, L = s.rd.mergeSort leI := ⟨_, rfl⟩
    obtain ⟨es, hes⟩ : ∃ es, es = esOf s := ⟨_, rfl⟩
    have hLn : L.length = s.rd.length := by rw [hL, List.length_mergeSort]
    have hen : es.length = s.rd.length := by rw [hes, esOf, List.length_map, ← hL, hLn]
    have heL : es = L.map (entE s) := by rw [hes, esOf, hL]
    have her : ∀ e ∈ es, e.old.ref = 0 := by
      intro e he
      rw [heL] at he
      obtain ⟨x, _, rfl⟩ := List.mem_map.1 he
      show (oldW s x).ref = 0
      unfold oldW
      cases h : lookW s.kn x with
      | none => rfl
      | some w => exact hk x w h
    rw [← hes]
    refine run_nilslice 66 6 ?_
    repeat (first | refine zck ?_ | refine zcl ?_ | refine zcm ?_ | refine zcn ?_)
    first | refine zcp (by kernel_rfl) ?_ | refine zcq PP_mixed (by kernel_rfl) (by kernel_rfl) ?_
    repeat' (refine zap rfl ?_; first | ((with_reducible refine zcu ?_); refine zan rfl ?_) | ((with_reducible refine zcv ?_); refine zan rfl ?_) | ((with_reducible refine zcw ?_); first | refine zaa 0 rfl rfl rfl ?_ | refine zaa 1 rfl rfl rfl ?_ | refine zaa 2 rfl rfl rfl ?_ | refine zaa 3 rfl rfl rfl ?_ | refine zaa 4 rfl rfl rfl ?_ | refine zaa 5 rfl rfl rfl ?_ | refine zab 0 rfl rfl rfl ?_ | refine zab 1 rfl rfl rfl ?_ | refine zab 2 rfl rfl rfl ?_ | refine zab 3 rfl rfl rfl ?_ | refine zab 4 rfl rfl rfl ?_ | refine zab 5 rfl rfl rfl ?_) | ((with_reducible refine zcx ?_); refine zce rfl ?_) | ((with_reducible refine zcy ?_); refine zao rfl ?_) | ((with_reducible refine zcz ?_); refine zan rfl ?_) | ((with_reducible refine zda ?_); first | refine zau rfl rfl (by omega) ?_ | refine zbo rfl rfl ?_ | refine zbp rfl rfl ?_ | refine zbq rfl rfl ?_ | refine zaz rfl rfl ?_ | refine zbb rfl rfl ?_ | refine zba rfl rfl ?_) | ((with_reducible refine zde ?_); refine zan rfl ?_) | ((with_reducible refine zdf ?_); first | refine zas rfl rfl (by omega) ?_ | refine zat rfl rfl (by omega) ?_) | refine zcb rfl ?_)
    all_goals refine zch ?_
    all_goals repeat (first | refine zck ?_ | refine zcl ?_ | refine zcm ?_ | refine zcn ?_)
    have hRd := rds_spec w0 p s hlen
    rw [← hL, ← hLn] at hRd
    repeat (first | refine zck ?_ | refine zcl ?_ | refine zcm ?_ | refine zcn ?_)
    first | refine zcp (by kernel_rfl) ?_ | refine zcq PP_mixed (by kernel_rfl) (by kernel_rfl) ?_
    repeat' (refine zap rfl ?_; first | (refine zai [0] hRd rfl rfl rfl sub_nil ?_; rintro v Γ' ⟨ra, rcap, rfl, rfl⟩) | ((with_reducible refine zcu ?_); refine zan rfl ?_) | ((with_reducible refine zcv ?_); refine zan rfl ?_) | ((with_reducible refine zcw ?_); first | refine zaa 0 rfl rfl rfl ?_ | refine zaa 1 rfl rfl rfl ?_ | refine zaa 2 rfl rfl rfl ?_ | refine zaa 3 rfl rfl rfl ?_ | refine zaa 4 rfl rfl rfl ?_ | refine zaa 5 rfl rfl rfl ?_ | refine zab 0 rfl rfl rfl ?_ | refine zab 1 rfl rfl rfl ?_ | refine zab 2 rfl rfl rfl ?_ | refine zab 3 rfl rfl rfl ?_ | refine zab 4 rfl rfl rfl ?_ | refine zab 5 rfl rfl rfl ?_) | ((with_reducible refine zcx ?_); refine zce rfl ?_) | ((with_reducible refine zcy ?_); refine zao rfl ?_) | ((with_reducible refine zcz ?_); refine zan rfl ?_) | ((with_reducible refine zda ?_); first | refine zau rfl rfl (by omega) ?_ | refine zbo rfl rfl ?_ | refine zbp rfl rfl ?_ | refine zbq rfl rfl ?_ | refine zaz rfl rfl ?_ | refine zbb rfl rfl ?_ | refine zba rfl rfl ?_) | ((with_reducible refine zde ?_); refine zan rfl ?_) | ((with_reducible refine zdf ?_); first | refine zas rfl rfl (by omega) ?_ | refine zat rfl rfl (by omega) ?_) | refine zcb rfl ?_)
    all_goals refine zch ?_
    all_goals repeat (refine zck ?_)
    refine run_perm (Γ' := [SpaceA p s, SlA 24 1 ra L.length rcap (intsV L), EnA none 0 []]) (List.Perm.refl _) ?_
    refine run_bind_eq2 (Γ' := fun st : Option Addr × Nat => [SpaceA p s, SlA 24 1 ra L.length rcap (intsV L), EnA st.1 st.2 es]) (l' := fun st => [(0, spP p), (4, .slice st.1 es.length st.2)]) ?_ (fun st junk => ?_)
    · refine zcl ?_
      refine run_loop (S := Option Addr × Nat × Nat) (fun st => [(0, spP p), (4, .slice st.1 (es.take st.2.2).length st.2.1), (13, .slice ra L.length rcap), (14, .int .i64 L.length), (15, .int .i64 st.2.2)])
        (fun st Γ => Γ = [SpaceA p s, SlA 24 1 ra L.length rcap (intsV L), EnA st.1 st.2.1 (es.take st.2.2)] ∧ st.2.2 ≤ es.length)
        (fun st => es.length - st.2.2) (none, 0, 0) ⟨rfl, rfl, rfl, rfl, rfl, trivial⟩ ⟨rfl, by dsimp only; omega⟩ ?_
      rintro ⟨a, cap, j⟩ Γ junk ⟨rfl, g1⟩
      dsimp only at g1 ⊢
      by_cases hj : j < es.length
      · obtain ⟨x, hx⟩ : ∃ x, L[j]? = some x := ⟨_, List.getElem?_eq_getElem (by omega)⟩
        have hex : es[j]? = some (entE s x) := by rw [heL, List.getElem?_map, hx]; rfl
        have hr := ints_rd hx
        have hlt : (es.take j).length = j := by simp; omega
        refine run_sl_cases 1 rfl (fun _ h _ _ => absurd h (by omega)) ?_
        intro bb k1 k2 k3
        subst k1
        have hw : (Vc.look (knM s.kn) x).getD (.agg #[.int .i64 0, .int .u32 0, .int .u32 0]) = .agg #[.int .i64 (oldW s x).val, .int .u32 (oldW s x).ver, .int .u32 (oldW s x).ref] := by
          rw [look_knM]
          unfold oldW
          cases lookW s.kn x with
          | none => rfl
          | some w => rfl
        repeat (first | refine zck ?_ | refine zcl ?_ | refine zcm ?_ | refine zcn ?_)
        first | refine zcp (by kernel_rfl) ?_ | refine zcq PP_mixed (by kernel_rfl) (by kernel_rfl) ?_
        repeat' (refine zap rfl ?_; first | ((with_reducible refine zcu ?_); refine zan rfl ?_) | ((with_reducible refine zcv ?_); refine zan rfl ?_) | ((with_reducible refine zcw ?_); first | refine zaa 0 rfl rfl rfl ?_ | refine zaa 1 rfl rfl rfl ?_ | refine zaa 2 rfl rfl rfl ?_ | refine zaa 3 rfl rfl rfl ?_ | refine zaa 4 rfl rfl rfl ?_ | refine zaa 5 rfl rfl rfl ?_ | refine zab 0 rfl rfl rfl ?_ | refine zab 1 rfl rfl rfl ?_ | refine zab 2 rfl rfl rfl ?_ | refine zab 3 rfl rfl rfl ?_ | refine zab 4 rfl rfl rfl ?_ | refine zab 5 rfl rfl rfl ?_) | ((with_reducible refine zcx ?_); refine zce rfl ?_) | ((with_reducible refine zcy ?_); refine zao rfl ?_) | ((with_reducible refine zcz ?_); refine zan rfl ?_) | ((with_reducible refine zda ?_); first | refine zbc rfl rfl (by omega) ?_ | refine zbd rfl rfl (by omega) ?_ | refine zbe rfl rfl (by omega) ?_ | refine zbf rfl rfl (by omega) ?_ | refine zbg rfl rfl (by omega) ?_ | refine zbh rfl rfl (by omega) ?_ | refine zau rfl rfl (by omega) ?_ | refine zbo rfl rfl ?_ | refine zbp rfl rfl ?_ | refine zbq rfl rfl ?_ | refine zaz rfl rfl ?_ | refine zbb rfl rfl ?_ | refine zba rfl rfl ?_) | ((with_reducible refine zde ?_); refine zan rfl ?_) | ((with_reducible refine zdf ?_); first | refine zas rfl rfl (by omega) ?_ | refine zat rfl rfl (by omega) ?_) | refine zcb rfl ?_)
        all_goals refine zch ?_
        all_goals repeat (first | refine zck ?_ | refine zcl ?_ | refine zcm ?_ | refine zcn ?_)
        refine zci rfl ?_
        repeat (first | refine zcm ?_ | refine zcl ?_ | refine zck ?_)
        repeat (first | refine zck ?_ | refine zcl ?_ | refine zcm ?_ | refine zcn ?_)
        first | refine zcp (by kernel_rfl) ?_ | refine zcq PP_mixed (by kernel_rfl) (by kernel_rfl) ?_
        repeat' (refine zap rfl ?_; first | refine zag 1 rfl rfl (hr _ (by omega)) (by intro h; cases h) ?_ | ((with_reducible refine zcu ?_); refine zan rfl ?_) | ((with_reducible refine zcv ?_); refine zan rfl ?_) | ((with_reducible refine zcw ?_); first | refine zaa 0 rfl rfl rfl ?_ | refine zaa 1 rfl rfl rfl ?_ | refine zaa 2 rfl rfl rfl ?_ | refine zaa 3 rfl rfl rfl ?_ | refine zaa 4 rfl rfl rfl ?_ | refine zaa 5 rfl rfl rfl ?_ | refine zab 0 rfl rfl rfl ?_ | refine zab 1 rfl rfl rfl ?_ | refine zab 2 rfl rfl rfl ?_ | refine zab 3 rfl rfl rfl ?_ | refine zab 4 rfl rfl rfl ?_ | refine zab 5 rfl rfl rfl ?_) | ((with_reducible refine zcx ?_); refine zce rfl ?_) | ((with_reducible refine zcy ?_); refine zao rfl ?_) | ((with_reducible refine zcz ?_); refine zan rfl ?_) | ((with_reducible refine zda ?_); first | refine zbc rfl rfl (by omega) ?_ | refine zbd rfl rfl (by omega) ?_ | refine zbe rfl rfl (by omega) ?_ | refine zbf rfl rfl (by omega) ?_ | refine zbg rfl rfl (by omega) ?_ | refine zbh rfl rfl (by omega) ?_ | refine zau rfl rfl (by omega) ?_ | refine zbo rfl rfl ?_ | refine zbp rfl rfl ?_ | refine zbq rfl rfl ?_ | refine zaz rfl rfl ?_ | refine zbb rfl rfl ?_ | refine zba rfl rfl ?_) | ((with_reducible refine zde ?_); refine zan rfl ?_) | ((with_reducible refine zdf ?_); first | refine zas rfl rfl (by omega) ?_ | refine zat rfl rfl (by omega) ?_) | refine zcb rfl ?_)
        all_goals refine zch ?_
        all_goals repeat (first | refine zck ?_ | refine zcl ?_ | refine zcm ?_ | refine zcn ?_)
        repeat (first | refine zck ?_ | refine zcl ?_ | refine zcm ?_ | refine zcn ?_)
        first | refine zcp (by kernel_rfl) ?_ | refine zcq PP_mixed (by kernel_rfl) (by kernel_rfl) ?_
        repeat' (refine zap rfl ?_; first | ((with_reducible refine zcu ?_); refine zan rfl ?_) | ((with_reducible refine zcv ?_); refine zan rfl ?_) | ((with_reducible refine zcw ?_); first | refine zaa 0 rfl rfl rfl ?_ | refine zaa 1 rfl rfl rfl ?_ | refine zaa 2 rfl rfl rfl ?_ | refine zaa 3 rfl rfl rfl ?_ | refine zaa 4 rfl rfl rfl ?_ | refine zaa 5 rfl rfl rfl ?_ | refine zab 0 rfl rfl rfl ?_ | refine zab 1 rfl rfl rfl ?_ | refine zab 2 rfl rfl rfl ?_ | refine zab 3 rfl rfl rfl ?_ | refine zab 4 rfl rfl rfl ?_ | refine zab 5 rfl rfl rfl ?_) | ((with_reducible refine zcx ?_); first | refine zah [0] (value_spec w0 p s x hp) rfl rfl rfl sub_nil rfl ?_ | refine zce rfl ?_) | ((with_reducible refine zcy ?_); refine zao rfl ?_) | ((with_reducible refine zcz ?_); refine zan rfl ?_) | ((with_reducible refine zda ?_); first | refine zbc rfl rfl (by omega) ?_ | refine zbd rfl rfl (by omega) ?_ | refine zbe rfl rfl (by omega) ?_ | refine zbf rfl rfl (by omega) ?_ | refine zbg rfl rfl (by omega) ?_ | refine zbh rfl rfl (by omega) ?_ | refine zau rfl rfl (by omega) ?_ | refine zbo rfl rfl ?_ | refine zbp rfl rfl ?_ | refine zbq rfl rfl ?_ | refine zaz rfl rfl ?_ | refine zbb rfl rfl ?_ | refine zba rfl rfl ?_) | ((with_reducible refine zde ?_); refine zan rfl ?_) | ((with_reducible refine zdf ?_); first | refine zas rfl rfl (by omega) ?_ | refine zat rfl rfl (by omega) ?_) | refine zcb rfl ?_)
        all_goals refine zch ?_
        all_goals repeat (first | refine zck ?_ | refine zcl ?_ | refine zcm ?_ | refine zcn ?_)
        refine run_open [0] (SpaceParts p s) rfl (fun _ h => h) ?_
        rintro ⟨bk, br, sa, sc⟩
        repeat (first | refine zck ?_ | refine zcl ?_ | refine zcm ?_ | refine zcn ?_)
        first | refine zcp (by kernel_rfl) ?_ | refine zcq PP_mixed (by kernel_rfl) (by kernel_rfl) ?_
        repeat' (refine zap rfl ?_; first | refine reg_lookup 1 rfl rfl rfl hw ?_ | refine zcb rfl ?_ | refine reg_buildSlice rfl rfl rfl rfl rfl rfl (fun nb => ?_) | refine reg_append 5 6 rfl rfl rfl rfl rfl rfl rfl rfl (by omega) (fun _ _ => rfl) (fun a' cap' => ?_) | ((with_reducible refine zcu ?_); refine zan rfl ?_) | ((with_reducible refine zcv ?_); refine zan rfl ?_) | ((with_reducible refine zcw ?_); first | refine zaa 0 rfl rfl rfl ?_ | refine zaa 1 rfl rfl rfl ?_ | refine zaa 2 rfl rfl rfl ?_ | refine zaa 3 rfl rfl rfl ?_ | refine zaa 4 rfl rfl rfl ?_ | refine zaa 5 rfl rfl rfl ?_ | refine zab 0 rfl rfl rfl ?_ | refine zab 1 rfl rfl rfl ?_ | refine zab 2 rfl rfl rfl ?_ | refine zab 3 rfl rfl rfl ?_ | refine zab 4 rfl rfl rfl ?_ | refine zab 5 rfl rfl rfl ?_) | ((with_reducible refine zcx ?_); refine zce rfl ?_) | ((with_reducible refine zcy ?_); refine zao rfl ?_) | ((with_reducible refine zcz ?_); refine zan rfl ?_) | ((with_reducible refine zda ?_); first | refine zbc rfl rfl (by omega) ?_ | refine zbd rfl rfl (by omega) ?_ | refine zbe rfl rfl (by omega) ?_ | refine zbf rfl rfl (by omega) ?_ | refine zbg rfl rfl (by omega) ?_ | refine zbh rfl rfl (by omega) ?_ | refine zau rfl rfl (by omega) ?_ | refine zbo rfl rfl ?_ | refine zbp rfl rfl ?_ | refine zbq rfl rfl ?_ | refine zaz rfl rfl ?_ | refine zbb rfl rfl ?_ | refine zba rfl rfl ?_) | ((with_reducible refine zde ?_); refine zan rfl ?_) | ((with_reducible refine zdf ?_); first | refine zas rfl rfl (by omega) ?_ | refine zat rfl rfl (by omega) ?_) | refine zcb rfl ?_)
        all_goals refine zch ?_
        all_goals repeat (first | refine zck ?_ | refine zcl ?_ | refine zcm ?_ | refine zcn ?_)
        refine run_close (A := SpaceA p s) [0, 0, 0, 0] rfl (fun _ h => ⟨(bk, br, sa, sc), h⟩) ?_
        refine run_take [0, 0, 0] rfl ?_
        have et : es.take (j + 1) = es.take j ++ [entE s x] := by rw [List.take_add_one, hex]; rfl
        have e1 : (es.take (j + 1)).length = (es.take j).length + 1 := by rw [et, List.length_append]; rfl
        repeat' (first | refine zck ?_ | refine zcp (by kernel_rfl) ?_ | refine zcq PP_mixed (by kernel_rfl) (by kernel_rfl) ?_ | refine zcm ?_ | refine zcl ?_ | refine zcn ?_ | refine zco ?_ | refine zcs rfl ?_ | (refine zap rfl ?_; first | ((with_reducible refine zcu ?_); refine zan rfl ?_) | ((with_reducible refine zcv ?_); refine zan rfl ?_) | ((with_reducible refine zcw ?_); first | refine zaa 0 rfl rfl rfl ?_ | refine zaa 1 rfl rfl rfl ?_ | refine zaa 2 rfl rfl rfl ?_ | refine zaa 3 rfl rfl rfl ?_ | refine zaa 4 rfl rfl rfl ?_ | refine zaa 5 rfl rfl rfl ?_ | refine zab 0 rfl rfl rfl ?_ | refine zab 1 rfl rfl rfl ?_ | refine zab 2 rfl rfl rfl ?_ | refine zab 3 rfl rfl rfl ?_ | refine zab 4 rfl rfl rfl ?_ | refine zab 5 rfl rfl rfl ?_) | ((with_reducible refine zcx ?_); refine zce rfl ?_) | ((with_reducible refine zcy ?_); refine zao rfl ?_) | ((with_reducible refine zcz ?_); refine zan rfl ?_) | ((with_reducible refine zda ?_); first | refine zbc rfl rfl (by omega) ?_ | refine zbd rfl rfl (by omega) ?_ | refine zbe rfl rfl (by omega) ?_ | refine zbf rfl rfl (by omega) ?_ | refine zbg rfl rfl (by omega) ?_ | refine zbh rfl rfl (by omega) ?_ | refine zau rfl rfl (by omega) ?_ | refine zbo rfl rfl ?_ | refine zbp rfl rfl ?_ | refine zbq rfl rfl ?_ | refine zaz rfl rfl ?_ | refine zbb rfl rfl ?_ | refine zba rfl rfl ?_) | ((with_reducible refine zde ?_); refine zan rfl ?_) | ((with_reducible refine zdf ?_); first | refine zas rfl rfl (by omega) ?_ | refine zat rfl rfl (by omega) ?_) | refine zcb rfl ?_) | refine zch ?_ | refine zci rfl ?_ | refine zcj rfl ?_)
        refine cut_end ⟨rfl, (a', cap', j + 1), ⟨rfl, by dsimp only; rw [e1]; rfl, rfl, rfl, int_eq (by dsimp only; omega), trivial⟩, ⟨?_, by dsimp only; omega⟩, by dsimp only; omega⟩
        dsimp only
        unfold EnA
        rw [e1, et, flatE_append]
        rfl
      · repeat' (first | refine zck ?_ | refine zcp (by kernel_rfl) ?_ | refine zcq PP_mixed (by kernel_rfl) (by kernel_rfl) ?_ | refine zcm ?_ | refine zcl ?_ | refine zcn ?_ | refine zco ?_ | refine zcs rfl ?_ | (refine zap rfl ?_; first | ((with_reducible refine zcu ?_); refine zan rfl ?_) | ((with_reducible refine zcv ?_); refine zan rfl ?_) | ((with_reducible refine zcw ?_); first | refine zaa 0 rfl rfl rfl ?_ | refine zaa 1 rfl rfl rfl ?_ | refine zaa 2 rfl rfl rfl ?_ | refine zaa 3 rfl rfl rfl ?_ | refine zaa 4 rfl rfl rfl ?_ | refine zaa 5 rfl rfl rfl ?_ | refine zab 0 rfl rfl rfl ?_ | refine zab 1 rfl rfl rfl ?_ | refine zab 2 rfl rfl rfl ?_ | refine zab 3 rfl rfl rfl ?_ | refine zab 4 rfl rfl rfl ?_ | refine zab 5 rfl rfl rfl ?_) | ((with_reducible refine zcx ?_); refine zce rfl ?_) | ((with_reducible refine zcy ?_); refine zao rfl ?_) | ((with_reducible refine zcz ?_); refine zan rfl ?_) | ((with_reducible refine zda ?_); first | refine zbc rfl rfl (by omega) ?_ | refine zbd rfl rfl (by omega) ?_ | refine zbe rfl rfl (by omega) ?_ | refine zbf rfl rfl (by omega) ?_ | refine zbg rfl rfl (by omega) ?_ | refine zbh rfl rfl (by omega) ?_ | refine zau rfl rfl (by omega) ?_ | refine zbo rfl rfl ?_ | refine zbp rfl rfl ?_ | refine zbq rfl rfl ?_ | refine zaz rfl rfl ?_ | refine zbb rfl rfl ?_ | refine zba rfl rfl ?_) | ((with_reducible refine zde ?_); refine zan rfl ?_) | ((with_reducible refine zdf ?_); first | refine zas rfl rfl (by omega) ?_ | refine zat rfl rfl (by omega) ?_) | refine zcb rfl ?_) | refine zch ?_ | refine zci rfl ?_ | refine zcj rfl ?_)
        refine cut_exit rfl rfl ?_
        have ht : es.take j = es := List.take_of_length_le (by omega)
        rw [ht]
        refine cut_end ⟨rfl, (a, cap), ⟨rfl, rfl, trivial⟩, rfl⟩
    · obtain ⟨a, cap⟩ := st
      dsimp only
      by_cases hn : es.length = 0
      · rw [if_pos hn]
        repeat' (first | refine zck ?_ | refine zcp (by kernel_rfl) ?_ | refine zcq PP_mixed (by kernel_rfl) (by kernel_rfl) ?_ | refine zcm ?_ | refine zcl ?_ | refine zcn ?_ | refine zco ?_ | refine zcs rfl ?_ | (refine zap rfl ?_; first | ((with_reducible refine zcu ?_); refine zan rfl ?_) | ((with_reducible refine zcv ?_); refine zan rfl ?_) | ((with_reducible refine zcw ?_); first | refine zaa 0 rfl rfl rfl ?_ | refine zaa 1 rfl rfl rfl ?_ | refine zaa 2 rfl rfl rfl ?_ | refine zaa 3 rfl rfl rfl ?_ | refine zaa 4 rfl rfl rfl ?_ | refine zaa 5 rfl rfl rfl ?_ | refine zab 0 rfl rfl rfl ?_ | refine zab 1 rfl rfl rfl ?_ | refine zab 2 rfl rfl rfl ?_ | refine zab 3 rfl rfl rfl ?_ | refine zab 4 rfl rfl rfl ?_ | refine zab 5 rfl rfl rfl ?_) | ((with_reducible refine zcx ?_); refine zce rfl ?_) | ((with_reducible refine zcy ?_); refine zao rfl ?_) | ((with_reducible refine zcz ?_); refine zan rfl ?_) | ((with_reducible refine zda ?_); first | refine zbc rfl rfl (by omega) ?_ | refine zbd rfl rfl (by omega) ?_ | refine zbe rfl rfl (by omega) ?_ | refine zbf rfl rfl (by omega) ?_ | refine zbg rfl rfl (by omega) ?_ | refine zbh rfl rfl (by omega) ?_ | refine zau rfl rfl (by omega) ?_ | refine zbo rfl rfl ?_ | refine zbp rfl rfl ?_ | refine zbq rfl rfl ?_ | refine zaz rfl rfl ?_ | refine zbb rfl rfl ?_ | refine zba rfl rfl ?_) | ((with_reducible refine zde ?_); refine zan rfl ?_) | ((with_reducible refine zdf ?_); first | refine zas rfl rfl (by omega) ?_ | refine zat rfl rfl (by omega) ?_) | refine zcb rfl ?_) | refine zch ?_ | refine zci rfl ?_ | refine zcj rfl ?_)
        refine run_nilslice 66 6 ?_
        refine run_take [0, 2] rfl ?_
        exact ret_tmp2 rfl ⟨none, 0, rfl, rfl⟩
      · rw [if_neg hn]
        repeat' (first | refine zck ?_ | refine zcp (by kernel_rfl) ?_ | refine zcq PP_mixed (by kernel_rfl) (by kernel_rfl) ?_ | refine zcm ?_ | refine zcl ?_ | refine zcn ?_ | refine zco ?_ | refine zcs rfl ?_ | (refine zap rfl ?_; first | ((with_reducible refine zcu ?_); refine zan rfl ?_) | ((with_reducible refine zcv ?_); refine zan rfl ?_) | ((with_reducible refine zcw ?_); first | refine zaa 0 rfl rfl rfl ?_ | refine zaa 1 rfl rfl rfl ?_ | refine zaa 2 rfl rfl rfl ?_ | refine zaa 3 rfl rfl rfl ?_ | refine zaa 4 rfl rfl rfl ?_ | refine zaa 5 rfl rfl rfl ?_ | refine zab 0 rfl rfl rfl ?_ | refine zab 1 rfl rfl rfl ?_ | refine zab 2 rfl rfl rfl ?_ | refine zab 3 rfl rfl rfl ?_ | refine zab 4 rfl rfl rfl ?_ | refine zab 5 rfl rfl rfl ?_) | ((with_reducible refine zcx ?_); first | refine zah [2] (echeck_spec w0 a cap es her (by omega)) rfl rfl rfl sub_nil rfl ?_ | refine zce rfl ?_) | ((with_reducible refine zcy ?_); refine zao rfl ?_) | ((with_reducible refine zcz ?_); refine zan rfl ?_) | ((with_reducible refine zda ?_); first | refine zbc rfl rfl (by omega) ?_ | refine zbd rfl rfl (by omega) ?_ | refine zbe rfl rfl (by omega) ?_ | refine zbf rfl rfl (by omega) ?_ | refine zbg rfl rfl (by omega) ?_ | refine zbh rfl rfl (by omega) ?_ | refine zau rfl rfl (by omega) ?_ | refine zbo rfl rfl ?_ | refine zbp rfl rfl ?_ | refine zbq rfl rfl ?_ | refine zaz rfl rfl ?_ | refine zbb rfl rfl ?_ | refine zba rfl rfl ?_) | ((with_reducible refine zde ?_); refine zan rfl ?_) | ((with_reducible refine zdf ?_); first | refine zas rfl rfl (by omega) ?_ | refine zat rfl rfl (by omega) ?_) | refine zcb rfl ?_) | refine zch ?_ | refine zci rfl ?_ | refine zcj rfl ?_)
        refine run_cond rfl (fun hE => ?_) (fun hE => ?_)
        · rw [if_pos hE]
          repeat' (first | refine zck ?_ | refine zcp (by kernel_rfl) ?_ | refine zcq PP_mixed (by kernel_rfl) (by kernel_rfl) ?_ | refine zcm ?_ | refine zcl ?_ | refine zcn ?_ | refine zco ?_ | refine zcs rfl ?_ | (refine zap rfl ?_; first | ((with_reducible refine zcu ?_); refine zan rfl ?_) | ((with_reducible refine zcv ?_); refine zan rfl ?_) | ((with_reducible refine zcw ?_); first | refine zaa 0 rfl rfl rfl ?_ | refine zaa 1 rfl rfl rfl ?_ | refine zaa 2 rfl rfl rfl ?_ | refine zaa 3 rfl rfl rfl ?_ | refine zaa 4 rfl rfl rfl ?_ | refine zaa 5 rfl rfl rfl ?_ | refine zab 0 rfl rfl rfl ?_ | refine zab 1 rfl rfl rfl ?_ | refine zab 2 rfl rfl rfl ?_ | refine zab 3 rfl rfl rfl ?_ | refine zab 4 rfl rfl rfl ?_ | refine zab 5 rfl rfl rfl ?_) | ((with_reducible refine zcx ?_); refine zce rfl ?_) | ((with_reducible refine zcy ?_); refine zao rfl ?_) | ((with_reducible refine zcz ?_); refine zan rfl ?_) | ((with_reducible refine zda ?_); first | refine zbc rfl rfl (by omega) ?_ | refine zbd rfl rfl (by omega) ?_ | refine zbe rfl rfl (by omega) ?_ | refine zbf rfl rfl (by omega) ?_ | refine zbg rfl rfl (by omega) ?_ | refine zbh rfl rfl (by omega) ?_ | refine zau rfl rfl (by omega) ?_ | refine zbo rfl rfl ?_ | refine zbp rfl rfl ?_ | refine zbq rfl rfl ?_ | refine zaz rfl rfl ?_ | refine zbb rfl rfl ?_ | refine zba rfl rfl ?_) | ((with_reducible refine zde ?_); refine zan rfl ?_) | ((with_reducible refine zdf ?_); first | refine zas rfl rfl (by omega) ?_ | refine zat rfl rfl (by omega) ?_) | refine zcb rfl ?_) | refine zch ?_ | refine zci rfl ?_ | refine zcj rfl ?_)
          refine run_nilslice 66 6 ?_
          refine run_take [1, 2] rfl ?_
          exact ret_tmp2 rfl ⟨none, 0, rfl, rfl⟩
        · rw [if_neg hE]
          repeat' (first | refine zck ?_ | refine zcp (by kernel_rfl) ?_ | refine zcq PP_mixed (by kernel_rfl) (by kernel_rfl) ?_ | refine zcm ?_ | refine zcl ?_ | refine zcn ?_ | refine zco ?_ | refine zcs rfl ?_ | (refine zap rfl ?_; first | ((with_reducible refine zcu ?_); refine zan rfl ?_) | ((with_reducible refine zcv ?_); refine zan rfl ?_) | ((with_reducible refine zcw ?_); first | refine zaa 0 rfl rfl rfl ?_ | refine zaa 1 rfl rfl rfl ?_ | refine zaa 2 rfl rfl rfl ?_ | refine zaa 3 rfl rfl rfl ?_ | refine zaa 4 rfl rfl rfl ?_ | refine zaa 5 rfl rfl rfl ?_ | refine zab 0 rfl rfl rfl ?_ | refine zab 1 rfl rfl rfl ?_ | refine zab 2 rfl rfl rfl ?_ | refine zab 3 rfl rfl rfl ?_ | refine zab 4 rfl rfl rfl ?_ | refine zab 5 rfl rfl rfl ?_) | ((with_reducible refine zcx ?_); refine zce rfl ?_) | ((with_reducible refine zcy ?_); refine zao rfl ?_) | ((with_reducible refine zcz ?_); refine zan rfl ?_) | ((with_reducible refine zda ?_); first | refine zbc rfl rfl (by omega) ?_ | refine zbd rfl rfl (by omega) ?_ | refine zbe rfl rfl (by omega) ?_ | refine zbf rfl rfl (by omega) ?_ | refine zbg rfl rfl (by omega) ?_ | refine zbh rfl rfl (by omega) ?_ | refine zau rfl rfl (by omega) ?_ | refine zbo rfl rfl ?_ | refine zbp rfl rfl ?_ | refine zbq rfl rfl ?_ | refine zaz rfl rfl ?_ | refine zbb rfl rfl ?_ | refine zba rfl rfl ?_) | ((with_reducible refine zde ?_); refine zan rfl ?_) | ((with_reducible refine zdf ?_); first | refine zas rfl rfl (by omega) ?_ | refine zat rfl rfl (by omega) ?_) | refine zcb rfl ?_) | refine zch ?_ | refine zci rfl ?_ | refine zcj rfl ?_)
          refine run_take [1, 0] rfl ?_
          exact ret_tmp2 rfl ⟨a, cap, rfl, rfl⟩
end Go.Proofs.YtilnknokgflkjaaDoor

/- The plain law on arbitrary words: what errors leave. -/
namespace Sim
/-- The words that are known, the locations that are read, what is kept of the writes. -/
structure Wk (B : List (Int × Int)) (K : List (Int × Wd)) (s : Sp) : Prop where
  pre : B <+: s.puts
  kn : s.kn = K
  nd : s.rd.Nodup
  rk : ∀ x ∈ s.rd, lookW K x ≠ none
variable {B : List (Int × Int)} {K : List (Int × Wd)} {s : Sp} {A : Ar}
theorem insI_mem : ∀ (l : List Int) (x y : Int), y ∈ insI l x ↔ y ∈ l ∨ y = x
  | [], x, y => by simp [insI]
  | a :: l, x, y => by
    simp only [insI]
    split
    · rename_i h; subst h; simp; intro h; exact .inl h
    · rw [List.mem_cons, insI_mem l x y, List.mem_cons, or_assoc]
theorem insI_nodup : ∀ (l : List Int) (x : Int), l.Nodup → (insI l x).Nodup
  | [], x, _ => by simp [insI]
  | a :: l, x, h => by
    simp only [insI]
    split
    · exact h
    · rename_i hne
      rw [List.nodup_cons] at h ⊢
      refine ⟨fun hm => ?_, insI_nodup l x h.2⟩
      rcases (insI_mem l x a).1 hm with h1 | h1
      · exact h.1 h1
      · exact hne h1
theorem Wk.reads (h : Wk B K s) (a : Int) : Wk B K (s.reads a).2 := by
  unfold Sp.reads
  split
  · exact h
  · split
    · exact ⟨h.pre, h.kn, h.nd, h.rk⟩
    · rename_i w hw
      refine ⟨h.pre, h.kn, insI_nodup _ _ h.nd, fun x hx => ?_⟩
      rcases (insI_mem _ _ _).1 hx with h1 | h1
      · exact h.rk x h1
      · subst h1; rw [← h.kn, hw]; exact fun e => by cases e
theorem Wk.get (h : Wk B K s) (a : Int) : Wk B K (s.get a).2 := by
  unfold Sp.get
  split
  · exact h.reads a
  · exact h.reads a
theorem Wk.put (h : Wk B K s) (a v : Int) : Wk B K (s.put a v) := by
  unfold Sp.put
  split
  · have := h.reads a
    exact ⟨h.pre.trans (List.prefix_append _ _), this.kn, this.nd, this.rk⟩
  · exact h.reads a
theorem Wk.many (h : Wk B K s) : Wk B K (A.many s).2.2.2 := by
  unfold Ar.many
  split
  · exact h.get _
  · exact (h.get _).get _
theorem Wk.node (h : Wk B K s) (c : Int) : Wk B K (A.node s c).2.2 := by
  unfold Ar.node
  split <;> exact h.get _
theorem Wk.add {P : Pl} (h : Wk B K s) (c n : Int) : Wk B K (P.add s c n) := (h.get _).put _ _
theorem Wk.ptake {P : Pl} (h : Wk B K s) : Wk B K (P.take s).2.2 := by
  unfold Pl.take
  split
  · split
    · exact (((h.get _).get _).put _ _).add _ _
    · exact h.get _
  · split
    · exact (h.get _).get _
    · exact ((h.get _).get _).put _ _
theorem Wk.give {P : Pl} (h : Wk B K s) (a : Int) : Wk B K (P.give s a).2 := by
  unfold Pl.give
  split
  · exact (((h.get _).put _ _).put _ _).add _ _
  · exact h
theorem Wk.take (h : Wk B K s) : Wk B K (A.take s).2.2 := by
  unfold Ar.take
  split
  · exact (h.ptake.get _).put _ _
  · exact h.ptake
theorem Wk.way (i : Int) : ∀ (d : Nat) (c : Int) (s : Sp) (acc : List Int), Wk B K s → Wk B K (A.way i d c s acc).2
  | 0, _, _, _, h => h
  | d + 1, c, s, acc, h => by
    simp only [Ar.way]
    split
    · exact Wk.way i d _ _ _ (h.node _)
    · exact h.node _
theorem Wk.grow (h : Wk B K s) (n : Int) (d : Nat) : Wk B K (A.grow n d s).2 := by
  have h1 : Wk B K (if 0 < d then A.node (s.get A.root).2 A.root else (0, true, (s.get A.root).2)).2.2 := by
    split
    · exact (h.get _).node _
    · exact h.get _
  unfold Ar.grow
  dsimp only
  generalize (if 0 < d then A.node (s.get A.root).2 A.root else (0, true, (s.get A.root).2)) = c at h1 ⊢
  split
  · split
    · refine Wk.put (Wk.put ?_ _ _) _ _
      split
      · exact h1.take.put _ _
      · exact h1.take
    · exact h1.take
  · exact h1
theorem Wk.aadd (h : Wk B K s) (n : Int) (d : Nat) (c : Int) : Wk B K (A.add n d c s).2 := by
  unfold Ar.add
  dsimp only
  split
  · split
    · exact h.take.put _ _
    · exact h.take
  · exact h
theorem Wk.down (n : Int) : ∀ (d : Nat) (a : Int) (s : Sp), Wk B K s → Wk B K (A.down n d a s).2.2
  | 0, _, _, h => h
  | d + 1, a, s, h => by
    simp only [Ar.down]
    split
    · exact h
    · split
      · split
        · exact Wk.down n d _ _ ((h.aadd _ _ _).node _)
        · exact (h.aadd _ _ _).node _
      · exact h.aadd _ _ _
theorem Wk.rest (h : Wk B K s) (n v : Int) (d : Nat) : Wk B K (A.rest n v d s).2.2 := by
  unfold Ar.rest
  dsimp only
  split
  · have := Wk.down (A := A) n d (A.node s A.root).1 _ (h.node (A := A) A.root)
    split
    · exact (this.put _ _).put _ _
    · exact this
  · exact h.node _
theorem Wk.pushIn (h : Wk B K s) (n v : Int) (d : Nat) : Wk B K (A.pushIn n v d s).2.2 := by
  unfold Ar.pushIn
  split
  · split
    · exact (h.grow _ _).rest _ _ _
    · exact h.grow _ _
  · exact h.rest _ _ _
theorem Wk.gives (n : Int) (d now : Nat) : ∀ (l : List Int) (i : Nat) (g : Int) (s : Sp), Wk B K s → Wk B K (A.gives n d now l i g s).2.2
  | [], _, _, _, h => h
  | a :: l, i, g, s, h => by
    simp only [Ar.gives]
    split
    · exact Wk.gives n d now l _ _ _ h
    · split
      · exact Wk.gives n d now l _ _ _ (h.give _)
      · exact h.give _
theorem Wk.fell (h : Wk B K s) (n : Int) (d now : Nat) (top gone : Int) : Wk B K (A.fell n d now top gone s) := by
  unfold Ar.fell
  dsimp only
  have h1 : Wk B K (if 0 < gone then (s.get (A.root + 7)).2.put (A.root + 7) (w64 ((s.get (A.root + 7)).1 - gone)) else s) := by
    split
    · exact (h.get _).put _ _
    · exact h
  refine Wk.put ?_ _ _
  split
  · exact (h1.put _ _).put _ _
  · exact h1
theorem Wk.popOn (h : Wk B K s) (n : Int) (d now : Nat) (l : List Int) (v top : Int) : Wk B K (A.popOn n d now l v top s).2.2 := by
  unfold Ar.popOn
  dsimp only
  have := Wk.gives (A := A) n d now l 0 0 s h
  split
  · exact this.fell _ _ _ _ _
  · exact this
theorem Wk.popIn (h : Wk B K s) (n : Int) (d : Nat) : Wk B K (A.popIn n d s).2.2 := by
  unfold Ar.popIn
  have h1 := Wk.way (A := A) (n - 1) d A.root s [] h
  split
  · rename_i t ht; rw [ht] at h1; exact h1
  · rename_i l t ht
    rw [ht] at h1
    dsimp only
    split
    · split
      · exact ((h1.get _).node _).popOn _ _ _ _ _ _
      · exact (h1.get _).node _
    · exact (h1.get _).popOn _ _ _ _ _ _
theorem Wk.back {m : Nat} (h : Wk B K s) (hm : m = B.length) : (s.back m).ended = true ∨ (s.back m).puts = B := by
  subst hm
  unfold Sp.back
  by_cases he : s.ended = true
  · left; rw [if_neg (by rw [he]; simp)]; exact he
  · right
    have hl := h.pre.length_le
    rw [if_pos ⟨by simpa using he, by omega, by omega⟩]
    dsimp only
    obtain ⟨u, hu⟩ := h.pre
    rw [← hu]; simp
end Sim

/- Words.Known on words that are only readable; space.New after it. -/
namespace Go.Proofs.YtilnknokgflkjaaDoor
open Go.Vc Sim
set_option maxHeartbeats 4000000
theorem known_rd (w0 : World) (va : Value) (l : List Int) (hrd : RdSl w0 [] encI 1 va l) (hlen : l.length ≤ 1000) :
    Vc.Fn PP w0 [] 10 [.agg #[va]] [] (fun v Γ => ∃ mb, v = .map (some mb) ∧ Γ = [pt mb (mapI (knM (wk 0 l)))]) := by
  obtain ⟨a, cap, rfl, _⟩ := id hrd
  refine fn_of_run en10 fn10 rfl rfl rfl ?_
  repeat (first | refine zck ?_ | refine zcl ?_ | refine zcm ?_ | refine zcn ?_)
  first | refine zcp (by kernel_rfl) ?_ | refine zcq PP_mixed (by kernel_rfl) (by kernel_rfl) ?_
  repeat' (refine zap rfl ?_; first | ((with_reducible refine zcv ?_); refine zan rfl ?_) | ((with_reducible refine zdg ?_); refine zaq (cs := [_]) rfl (fun nb => ?_)))
  all_goals refine zch ?_
  all_goals repeat (first | refine zck ?_ | refine zcl ?_ | refine zcm ?_ | refine zcn ?_)
  refine run_share [0] rfl ?_
  repeat (first | refine zck ?_ | refine zcl ?_ | refine zcm ?_ | refine zcn ?_)
  first | refine zcp (by kernel_rfl) ?_ | refine zcq PP_mixed (by kernel_rfl) (by kernel_rfl) ?_
  repeat' (refine zap rfl ?_; first | ((with_reducible refine zcv ?_); refine zan rfl ?_) | refine zcc (fun nb => ?_))
  all_goals refine zch ?_
  all_goals repeat (first | refine zck ?_ | refine zcl ?_ | refine zcm ?_ | refine zcn ?_)
  rename_i b1
  revert nb; intro mb
  repeat (first | refine zck ?_ | refine zcl ?_ | refine zcm ?_ | refine zcn ?_)
  first | refine zcp (by kernel_rfl) ?_ | refine zcq PP_mixed (by kernel_rfl) (by kernel_rfl) ?_
  repeat' (refine zap rfl ?_; first | ((with_reducible refine zcv ?_); refine zan rfl ?_))
  all_goals refine zch ?_
  all_goals repeat (first | refine zck ?_ | refine zcl ?_ | refine zcm ?_ | refine zcn ?_)
  refine run_loop (S := Nat) (fun i => [(1, .pointer (some ⟨b1, 0, none⟩)), (3, .map (some mb)), (4, .int .i64 (i : Int))])
    (fun i Γ => Γ = [pt mb (mapI (knM (wk 0 (l.take i))))] ∧ i ≤ l.length) (fun i => l.length - i) 0 ⟨rfl, rfl, rfl, trivial⟩ ⟨rfl, Nat.zero_le _⟩ ?_
  rintro i Γ junk ⟨rfl, hi⟩
  by_cases hlt : i < l.length
  · repeat (first | refine zck ?_ | refine zcl ?_ | refine zcm ?_ | refine zcn ?_)
    first | refine zcp (by kernel_rfl) ?_ | refine zcq PP_mixed (by kernel_rfl) (by kernel_rfl) ?_
    repeat' (refine zap rfl ?_; first | ((with_reducible refine zcu ?_); refine zan rfl ?_) | ((with_reducible refine zcw ?_); refine zaa 0 rfl rfl rfl ?_) | ((with_reducible refine zcx ?_); refine zce rfl ?_) | ((with_reducible refine zcy ?_); refine zao rfl ?_) | ((with_reducible refine zda ?_); refine zbq rfl rfl ?_))
    all_goals refine zch ?_
    all_goals repeat (first | refine zck ?_ | refine zcl ?_ | refine zcm ?_ | refine zcn ?_)
    refine zci (bool_eq (decide_eq_true (by omega))) ?_
    repeat (first | refine zck ?_ | refine zcl ?_ | refine zcm ?_ | refine zcn ?_ | refine zco ?_)
    have hv : l[i]? = some l[i] := List.getElem?_eq_getElem hlt
    obtain ⟨bb, off, cc, TT, fr, rfl, hm, hr⟩ := hrd.at hv
    have hnone : lookW (wk 0 (l.take i)) (i : Int) = none := by rw [lookW_wk]; rw [if_neg]; simp; omega
    have hins : ins (knM (wk 0 (l.take i))) (i : Int) (.agg #[.int .i64 l[i], .int .u32 0, .int .u32 0]) = knM (wk 0 (l.take (i + 1))) := by
      rw [show (Value.agg #[.int .i64 l[i], .int .u32 0, .int .u32 0]) = wordV ⟨l[i], 0, 0⟩ from rfl, ins_knM, insW_none _ _ _ hnone, List.take_succ_eq_append_getElem hlt, wk_snoc]
      congr 3; simp; omega
    repeat' (first | refine zcp (by kernel_rfl) ?_ | refine zcn ?_ | (refine zap rfl ?_; first | refine zad rfl (fun hF Γ w h1 h2 => hm hF Γ w (fun p hp => by cases hp) h2) (hr _ (by omega)) ?_ | refine zcb rfl ?_ | refine reg_mapUpdate 0 rfl rfl rfl rfl rfl ?_ | ((with_reducible refine zcu ?_); refine zan rfl ?_) | ((with_reducible refine zcv ?_); refine zan rfl ?_) | ((with_reducible refine zcw ?_); refine zaa 0 rfl rfl rfl ?_) | ((with_reducible refine zcy ?_); refine zao rfl ?_) | ((with_reducible refine zda ?_); refine zau rfl rfl (by omega) ?_) | ((with_reducible refine zdf ?_); refine zas rfl rfl (by omega) ?_)) | refine zch ?_)
    refine cut_end ⟨rfl, i + 1, ⟨rfl, rfl, int_eq (by omega), trivial⟩, ⟨?_, hlt⟩, by omega⟩
    rw [← hins]; rfl
  · have hi2 : i = l.length := by omega
    subst hi2
    repeat (first | refine zck ?_ | refine zcl ?_ | refine zcm ?_ | refine zcn ?_)
    first | refine zcp (by kernel_rfl) ?_ | refine zcq PP_mixed (by kernel_rfl) (by kernel_rfl) ?_
    repeat' (refine zap rfl ?_; first | ((with_reducible refine zcu ?_); refine zan rfl ?_) | ((with_reducible refine zcw ?_); refine zaa 0 rfl rfl rfl ?_) | ((with_reducible refine zcx ?_); refine zce rfl ?_) | ((with_reducible refine zcy ?_); refine zao rfl ?_) | ((with_reducible refine zda ?_); refine zbq rfl rfl ?_))
    all_goals refine zch ?_
    all_goals repeat (first | refine zck ?_ | refine zcl ?_ | refine zcm ?_ | refine zcn ?_)
    refine zcj (bool_eq (decide_eq_false (by omega))) ?_
    repeat (first | refine zck ?_ | refine zcl ?_ | refine zcm ?_ | refine zcn ?_ | refine zco ?_)
    refine cut_exit rfl rfl ?_
    repeat' (first | refine zck ?_ | refine zcp (by kernel_rfl) ?_ | (refine zap rfl ?_; first | ((with_reducible refine zcu ?_); refine zan rfl ?_) | ((with_reducible refine zcv ?_); refine zan rfl ?_)) | refine zch ?_)
    refine ret_tmp1 rfl ⟨mb, rfl, ?_⟩
    rw [List.take_length]
/-- The view of words 0.. of a list. -/
def _root_.Sim.WkS (l : List Int) (s : Sp) : Prop := ∃ K, (∀ a, lookW K a = lookW (wk 0 l) a) ∧ s = ⟨K, [], [], 0, false⟩
theorem newW (w0 : World) (kb : Nat) (l : List Int) : Vc.Fn PP w0 [] 9 [.map (some kb)] [pt kb (mapI (knM (wk 0 l)))]
    fun v Γ => ∃ p s, v = spP p ∧ Γ = [SpaceA p s] ∧ WkS l s := by
  refine (new_spec w0 kb (wk 0 l) fun q a w hq => ?_).post ?_
  · rw [wk_get] at hq
    obtain ⟨v, hv, h2⟩ : ∃ v, l[q]? = some v ∧ (((0 + q : Nat) : Int), (⟨v, 0, 0⟩ : Wd)) = (a, w) := by
      cases h : l[q]? with
      | none => rw [h] at hq; cases hq
      | some v => rw [h] at hq; exact ⟨v, rfl, Option.some.inj hq⟩
    have hql := (List.getElem?_eq_some_iff.1 hv).1
    cases h2
    refine ⟨?_, rfl⟩
    rw [lookW_wk, if_pos (by omega)]
    simp only [Int.natCast_zero, Int.sub_zero, Nat.zero_add, Int.toNat_natCast, hv]; rfl
  · rintro v Γ ⟨p, kn', rfl, rfl, hkn⟩
    exact ⟨_, ⟨p, _, rfl, rfl, kn', hkn, rfl⟩, fun h hh => hh⟩
end Go.Proofs.YtilnknokgflkjaaDoor

/- The plain law of ArrayWild. -/
namespace Sim
variable {B : List (Int × Int)} {K : List (Int × Wd)} {s : Sp} {A : Ar}
theorem gp (s : Sp) (a : Int) : (s.get a).2.puts = s.puts := by
  have h : (s.reads a).2.puts = s.puts := by unfold Sp.reads; split; rfl; split <;> rfl
  unfold Sp.get
  split <;> exact h
theorem mp (s : Sp) : (A.many s).2.2.2.puts = s.puts := by
  unfold Ar.many
  split
  · exact gp _ _
  · exact (gp _ _).trans (gp _ _)
theorem np (s : Sp) (c : Int) : (A.node s c).2.2.puts = s.puts := by
  unfold Ar.node
  split <;> exact gp _ _
theorem yp (i : Int) : ∀ (d : Nat) (c : Int) (s : Sp) (acc : List Int), (A.way i d c s acc).2.puts = s.puts
  | 0, _, _, _ => rfl
  | d + 1, c, s, acc => by
    simp only [Ar.way]
    split
    · exact (yp i d _ _ _).trans (np _ _)
    · exact np _ _
theorem pp (s : Sp) (i : Int) : (A.place s i).2.2.puts = s.puts := by
  unfold Ar.place
  split
  · rfl
  · split
    · exact gp _ _
    · split
      · have h := yp (A := A) i (A.many (s.get (A.root + 1)).2).2.1.toNat A.root (A.many (s.get (A.root + 1)).2).2.2.2 []
        have h2 := h.trans ((mp _).trans (gp s (A.root + 1)))
        split
        · rename_i t ht; rw [ht] at h2; exact h2
        · rename_i l t ht; rw [ht] at h2; exact h2
      · exact (mp _).trans (gp _ _)
theorem Wk.place (h : Wk B K s) (i : Int) : Wk B K (A.place s i).2.2 := by
  unfold Ar.place
  split
  · exact h
  · split
    · exact h.get _
    · split
      · have h2 := Wk.way (A := A) i (A.many (s.get (A.root + 1)).2).2.1.toNat A.root (A.many (s.get (A.root + 1)).2).2.2.2 [] (h.get _).many
        split
        · rename_i t ht; rw [ht] at h2; exact h2
        · rename_i l t ht; rw [ht] at h2; exact h2
      · exact (h.get _).many
/-- What an operation leaves: the known words, and after an error the writes that were. -/
def Lv (s : Sp) (K : List (Int × Wd)) (e : Int) (t : Sp) : Prop := (t.kn = K ∧ t.rd.Nodup ∧ (∀ x ∈ t.rd, lookW K x ≠ none)) ∧ (e ≠ 0 → t.ended = true ∨ t.puts = s.puts)
theorem Wk.lv {e : Int} {t : Sp} (h : Wk B K t) (h2 : e ≠ 0 → t.ended = true ∨ t.puts = s.puts) : Lv s K e t := ⟨⟨h.kn, h.nd, h.rk⟩, h2⟩
theorem Wk.backW (h : Wk B K s) (m : Int) : (s.back m).kn = K ∧ (s.back m).rd.Nodup ∧ (∀ x ∈ (s.back m).rd, lookW K x ≠ none) := by
  unfold Sp.back
  split
  · exact ⟨h.kn, h.nd, h.rk⟩
  · exact ⟨h.kn, h.nd, h.rk⟩
theorem get_lv (h : Wk s.puts K s) (i : Int) : Lv s K (A.get s i).2.1 (A.get s i).2.2 := by
  unfold Ar.get
  split
  · exact ((h.place i).get _).lv (fun e => absurd rfl e)
  · exact (h.place i).lv (fun _ => .inr (pp _ _))
theorem set_lv (h : Wk s.puts K s) (i v : Int) : Lv s K (A.set s i v).2.1 (A.set s i v).2.2 := by
  unfold Ar.set
  split
  · exact (((h.place i).get _).put _ _).lv (fun e => absurd rfl e)
  · exact (h.place i).lv (fun _ => .inr (pp _ _))
theorem swap_lv (h : Wk s.puts K s) (i j : Int) : Lv s K (A.swap s i j).1 (A.swap s i j).2 := by
  unfold Ar.swap
  dsimp only
  split
  · exact (h.get _).lv (fun _ => .inr (gp _ _))
  · split
    · split
      · exact ((((((h.get _).place _).place _).get _).get _).put _ _).put _ _ |>.lv (fun e => absurd rfl e)
      · exact (((h.get _).place _).place _).lv (fun _ => .inr ((pp _ _).trans ((pp _ _).trans (gp _ _))))
    · exact ((h.get _).place _).lv (fun _ => .inr ((pp _ _).trans (gp _ _)))
theorem push_lv (h : Wk s.puts K s) (v : Int) : Lv s K (A.push s v).2.1 (A.push s v).2.2 := by
  unfold Ar.push
  dsimp only
  split
  · split
    · exact h.many.lv (fun _ => .inr (mp _))
    · have h1 := h.many (A := A)
      have h2 := h1.pushIn (A := A) (A.many s).1 v (A.many s).2.1.toNat
      unfold Ar.undo
      dsimp only
      split
      · exact ⟨h2.backW _, fun _ => h2.back (by rw [mp])⟩
      · rename_i he; exact h2.lv (fun e => absurd (by simpa using he) e)
  · exact h.many.lv (fun _ => .inr (mp _))
theorem pop_lv (h : Wk s.puts K s) : Lv s K (A.pop s).2.1 (A.pop s).2.2 := by
  unfold Ar.pop
  dsimp only
  split
  · exact h.many.lv (fun _ => .inr (mp _))
  · split
    · have h1 := h.many (A := A)
      have h2 := h1.popIn (A := A) (A.many s).1 (A.many s).2.1.toNat
      unfold Ar.undoPop
      split
      · exact ⟨h2.backW _, fun _ => h2.back (by rw [mp])⟩
      · rename_i he; exact h2.lv (fun e => absurd (by simpa using he) e)
    · exact h.many.lv (fun _ => .inr (mp _))
theorem dep_le4 (n : Int) : dep n ≤ 4 := by unfold dep; split; omega; split; omega; split; omega; split <;> omega
theorem walkAll_lv (s : Sp) : ((A.walkAll s).2.1 = 0 ∨ ((A.walkAll s).2.1 = 24 ∧ (A.walkAll s).1 = [])) ∧ (A.walkAll s).1.length ≤ 4096 := by
  unfold Ar.walkAll
  split
  · split
    · exact ⟨.inl rfl, Nat.zero_le _⟩
    · split
      · exact ⟨.inr ⟨rfl, rfl⟩, Nat.zero_le _⟩
      · rename_i l t ht
        refine ⟨.inl rfl, ?_⟩
        have hd : (A.many s).2.1.toNat ≤ 4 := by
          unfold Ar.many
          split
          · simp
          · have := dep_le4 (s.get (A.root + 1)).1; simp; exact this
        have h1 := walk_len A _ hd _ _ _ _ _ ht
        have h2 : 8 ^ (A.many s).2.1.toNat ≤ 8 ^ 4 := Nat.pow_le_pow_right (by decide) hd
        exact Nat.le_trans h1 h2
  · exact ⟨.inr ⟨rfl, rfl⟩, Nat.zero_le _⟩
theorem wks_wk {l : List Int} (h : WkS l s) : Wk s.puts s.kn s := by
  obtain ⟨K, _, rfl⟩ := h
  exact ⟨List.prefix_refl _, rfl, List.nodup_nil, by simp⟩
/-- The entries of a view that wrote nothing are what they were. -/
theorem entries_same (hp : s.puts = []) (e : Go.Proofs.YtilnknokgflkjaaDoor.En) (he : e ∈ Go.Proofs.YtilnknokgflkjaaDoor.esOf s) : e.new = e.old.val := by
  unfold Go.Proofs.YtilnknokgflkjaaDoor.esOf at he
  obtain ⟨x, _, rfl⟩ := List.mem_map.1 he
  show (s.value x).1 = (Go.Proofs.YtilnknokgflkjaaDoor.oldW s x).val
  unfold Sp.value Go.Proofs.YtilnknokgflkjaaDoor.oldW
  rw [hp]
  simp only [lastV]
  cases lookW s.kn x <;> rfl
end Sim

/- The walks of the reference: Nodes, Same, Set. -/
namespace Sim
def Rn : Nat → Nat → Nat
  | 0, _ => 0
  | f + 1, c => (c + 7) / 8 + if (c + 7) / 8 = 1 then 0 else Rn f ((c + 7) / 8)
set_option maxRecDepth 100000
theorem T_bd : ∀ n, n < 202 → T n ≤ 1000 := by decide
theorem Rn_T : ∀ n, n < 202 → 0 < n → Rn 3 n = T n := by decide
end Sim
namespace Go.Vc
theorem wr_ints : ∀ (l : List Int) (k : Nat) (x : Int), k < l.length → wr [Value.int .i64 x] k (intsV l) = some (intsV (l.set k x))
  | [], k, x, h => by simp at h
  | y :: l, 0, x, _ => rfl
  | y :: l, k + 1, x, h => by
    have ih := wr_ints l k x (by simpa using h)
    simp only [intsV, List.map_cons, wr, List.set_cons_succ] at ih ⊢
    rw [ih]
end Go.Vc
namespace Go.Proofs.YtilnknokgflkjaaDoor
open Go.Vc Sim
set_option maxHeartbeats 4000000
abbrev LA (v : Value) (l : List Int) : Asn := LstA 2 v l
theorem nodes_spec (w0 : World) (n : Nat) (hn : n < 202) (nI : Int) (hI : nI = n) : FnE PP w0 [] 37 [.int .i64 nI] [] (.int .i64 (T n)) [] := by
  subst hI
  refine fn_of_run en37 fn37 rfl rfl rfl ?_
  by_cases h0 : n = 0
  · subst h0
    repeat' (first | refine zck ?_ | refine zcp (by kernel_rfl) ?_ | refine zcq PP_mixed (by kernel_rfl) (by kernel_rfl) ?_ | refine zcm ?_ | refine zcl ?_ | refine zcn ?_ | refine zco ?_ | refine zcs rfl ?_ | (refine zap rfl ?_; first | ((with_reducible refine zcu ?_); refine zan rfl ?_) | ((with_reducible refine zcv ?_); refine zan rfl ?_) | ((with_reducible refine zda ?_); first | refine zbc rfl rfl (by omega) ?_ | refine zbd rfl rfl (by omega) ?_ | refine zau rfl rfl (by omega) ?_ | refine zbo rfl rfl ?_ | refine zax rfl rfl (by omega) ?_ | refine zaz rfl rfl ?_ | refine zbb rfl rfl ?_)) | refine zch ?_ | refine zci rfl ?_ | refine zcj rfl ?_)
    exact ret_tmp1 rfl ⟨rfl, rfl⟩
  · repeat (first | refine zck ?_ | refine zcl ?_ | refine zcm ?_ | refine zcn ?_)
    first | refine zcp (by kernel_rfl) ?_ | refine zcq PP_mixed (by kernel_rfl) (by kernel_rfl) ?_
    repeat' (refine zap rfl ?_; first | ((with_reducible refine zcu ?_); refine zan rfl ?_) | ((with_reducible refine zcv ?_); refine zan rfl ?_) | ((with_reducible refine zda ?_); first | refine zbc rfl rfl (by omega) ?_ | refine zbd rfl rfl (by omega) ?_ | refine zau rfl rfl (by omega) ?_ | refine zbo rfl rfl ?_ | refine zax rfl rfl (by omega) ?_ | refine zaz rfl rfl ?_ | refine zbb rfl rfl ?_))
    all_goals refine zch ?_
    all_goals repeat (first | refine zck ?_ | refine zcl ?_ | refine zcm ?_ | refine zcn ?_)
    repeat (first | refine zck ?_ | refine zcl ?_ | refine zcm ?_ | refine zcn ?_)
    first | refine zcp (by kernel_rfl) ?_ | refine zcq PP_mixed (by kernel_rfl) (by kernel_rfl) ?_
    repeat' (refine zap rfl ?_; first | ((with_reducible refine zcu ?_); refine zan rfl ?_) | ((with_reducible refine zcv ?_); refine zan rfl ?_) | ((with_reducible refine zda ?_); first | refine zbc rfl rfl (by omega) ?_ | refine zbd rfl rfl (by omega) ?_ | refine zau rfl rfl (by omega) ?_ | refine zbo rfl rfl ?_ | refine zax rfl rfl (by omega) ?_ | refine zaz rfl rfl ?_ | refine zbb rfl rfl ?_))
    all_goals refine zch ?_
    all_goals repeat (first | refine zck ?_ | refine zcl ?_ | refine zcm ?_ | refine zcn ?_)
    refine zcj rfl ?_
    repeat (first | refine zck ?_ | refine zcl ?_ | refine zcm ?_ | refine zcn ?_ | refine zco ?_)
    repeat (first | refine zck ?_ | refine zcl ?_ | refine zcm ?_ | refine zcn ?_)
    first | refine zcp (by kernel_rfl) ?_ | refine zcq PP_mixed (by kernel_rfl) (by kernel_rfl) ?_
    repeat' (refine zap rfl ?_; first | ((with_reducible refine zcu ?_); refine zan rfl ?_) | ((with_reducible refine zcv ?_); refine zan rfl ?_) | ((with_reducible refine zda ?_); first | refine zbc rfl rfl (by omega) ?_ | refine zbd rfl rfl (by omega) ?_ | refine zau rfl rfl (by omega) ?_ | refine zbo rfl rfl ?_ | refine zax rfl rfl (by omega) ?_ | refine zaz rfl rfl ?_ | refine zbb rfl rfl ?_))
    all_goals refine zch ?_
    all_goals repeat (first | refine zck ?_ | refine zcl ?_ | refine zcm ?_ | refine zcn ?_)
    refine run_loop (S := Nat × Nat × Nat) (fun st => [(0, .int .i64 (st.2.1 : Int)), (3, .int .i64 (st.2.2 : Int))])
      (fun st Γ => Γ = [] ∧ 1 ≤ st.2.1 ∧ st.2.1 ≤ 8 ^ st.1 ∧ 1 ≤ st.1 ∧ st.1 ≤ 3 ∧ st.2.2 + Rn st.1 st.2.1 = T n ∧ st.2.2 ≤ 1000) (fun st => st.1) (3, n, 0) ⟨rfl, rfl, trivial⟩
      ⟨rfl, by dsimp only; omega, by dsimp only; omega, by dsimp only; omega, by dsimp only; omega, by dsimp only; rw [Nat.zero_add]; exact Rn_T n hn (by omega), by dsimp only; omega⟩ ?_
    rintro ⟨f, c, out⟩ Γ junk ⟨rfl, h1, h2, h3, h4, h5, h6⟩
    dsimp only at h1 h2 h3 h4 h5 h6 ⊢
    have h8 : c ≤ 512 := by
      have : 8 ^ f ≤ 8 ^ 3 := Nat.pow_le_pow_right (by decide) h4
      omega
    obtain ⟨f, rfl⟩ : ∃ g, f = g + 1 := ⟨f - 1, by omega⟩
    have h9 : c ≤ 8 * 8 ^ f := by rw [Nat.pow_succ] at h2; omega
    simp only [Rn] at h5
    have h12 : T n ≤ 1000 := T_bd n hn
    by_cases h10 : (c + 7) / 8 = 1
    · rw [if_pos h10] at h5
      repeat' (first | refine zck ?_ | refine zcp (by kernel_rfl) ?_ | refine zcq PP_mixed (by kernel_rfl) (by kernel_rfl) ?_ | refine zcm ?_ | refine zcl ?_ | refine zcn ?_ | refine zco ?_ | refine zcs rfl ?_ | (refine zap rfl ?_; first | ((with_reducible refine zcu ?_); refine zan rfl ?_) | ((with_reducible refine zcv ?_); refine zan rfl ?_) | ((with_reducible refine zda ?_); first | refine zbc rfl rfl (by omega) ?_ | refine zbd rfl rfl (by omega) ?_ | refine zau rfl rfl (by omega) ?_ | refine zbo rfl rfl ?_ | refine zax rfl rfl (by omega) ?_ | refine zaz rfl rfl ?_ | refine zbb rfl rfl ?_)) | refine zch ?_ | refine zci rfl ?_ | refine zcj rfl ?_)
      refine qret1 (fun _ _ h => h) rfl ⟨int_eq (by show (out : Int) + ((c : Int) + 7) / 8 = _; omega), rfl⟩
    · rw [if_neg h10] at h5
      have h11 : 1 ≤ f := by
        rcases Nat.eq_zero_or_pos f with h | h
        · subst h; simp at h9; omega
        · exact h
      repeat' (first | refine zck ?_ | refine zcp (by kernel_rfl) ?_ | refine zcq PP_mixed (by kernel_rfl) (by kernel_rfl) ?_ | refine zcm ?_ | refine zcl ?_ | refine zcn ?_ | refine zco ?_ | refine zcs rfl ?_ | (refine zap rfl ?_; first | ((with_reducible refine zcu ?_); refine zan rfl ?_) | ((with_reducible refine zcv ?_); refine zan rfl ?_) | ((with_reducible refine zda ?_); first | refine zbc rfl rfl (by omega) ?_ | refine zbd rfl rfl (by omega) ?_ | refine zau rfl rfl (by omega) ?_ | refine zbo rfl rfl ?_ | refine zax rfl rfl (by omega) ?_ | refine zaz rfl rfl ?_ | refine zbb rfl rfl ?_)) | refine zch ?_ | refine zci rfl ?_ | refine zcj rfl ?_)
      refine cut_end ⟨rfl, (f, (c + 7) / 8, out + (c + 7) / 8), ⟨int_eq (by dsimp only; omega), int_eq (by dsimp only; omega), trivial⟩, ⟨rfl, by dsimp only; omega, by dsimp only; omega, h11, by dsimp only; omega, by dsimp only; omega, by dsimp only; omega⟩, by dsimp only; omega⟩

theorem same_spec (w0 : World) (sh : Shared) (va vb : Value) (l1 l2 : List Int) (h1 : RdSl w0 sh encI 1 va l1) (h2 : RdSl w0 sh encI 1 vb l2) (hb1 : l1.length ≤ 1000000) (hb2 : l2.length ≤ 1000000) :
    FnE PP w0 sh 21 [va, vb] [] (.bool (decide (l1 = l2))) [] := by
  obtain ⟨a1, c1, rfl, -⟩ := id h1
  obtain ⟨a2, c2, rfl, -⟩ := id h2
  refine fn_of_run en21 fn21 rfl rfl rfl ?_
  by_cases hl : l1.length = l2.length
  · repeat (first | refine zck ?_ | refine zcl ?_ | refine zcm ?_ | refine zcn ?_)
    first | refine zcp (by kernel_rfl) ?_ | refine zcq PP_mixed (by kernel_rfl) (by kernel_rfl) ?_
    repeat' (refine zap rfl ?_; first | ((with_reducible refine zcu ?_); refine zan rfl ?_) | ((with_reducible refine zcv ?_); refine zan rfl ?_) | ((with_reducible refine zcw ?_); first | refine zaa 0 rfl rfl rfl ?_ | refine zaa 1 rfl rfl rfl ?_ | refine zaa 2 rfl rfl rfl ?_ | refine zaa 3 rfl rfl rfl ?_ | refine zaa 4 rfl rfl rfl ?_ | refine zaa 5 rfl rfl rfl ?_ | refine zab 0 rfl rfl rfl ?_ | refine zab 1 rfl rfl rfl ?_ | refine zab 2 rfl rfl rfl ?_ | refine zab 3 rfl rfl rfl ?_ | refine zab 4 rfl rfl rfl ?_ | refine zab 5 rfl rfl rfl ?_) | ((with_reducible refine zcx ?_); refine zce rfl ?_) | ((with_reducible refine zda ?_); first | refine zbe rfl rfl (by omega) ?_ | refine zbf rfl rfl (by omega) ?_ | refine zbg rfl rfl (by omega) ?_ | refine zbh rfl rfl (by omega) ?_ | refine zau rfl rfl (by omega) ?_ | refine zbp rfl rfl ?_ | refine zbq rfl rfl ?_ | refine zba rfl rfl ?_) | ((with_reducible refine zdf ?_); first | refine zas rfl rfl (by omega) ?_ | refine zat rfl rfl (by omega) ?_))
    all_goals refine zch ?_
    all_goals repeat (first | refine zck ?_ | refine zcl ?_ | refine zcm ?_ | refine zcn ?_)
    repeat (first | refine zck ?_ | refine zcl ?_ | refine zcm ?_ | refine zcn ?_)
    first | refine zcp (by kernel_rfl) ?_ | refine zcq PP_mixed (by kernel_rfl) (by kernel_rfl) ?_
    repeat' (refine zap rfl ?_; first | ((with_reducible refine zcu ?_); refine zan rfl ?_) | ((with_reducible refine zcv ?_); refine zan rfl ?_) | ((with_reducible refine zcw ?_); first | refine zaa 0 rfl rfl rfl ?_ | refine zaa 1 rfl rfl rfl ?_ | refine zaa 2 rfl rfl rfl ?_ | refine zaa 3 rfl rfl rfl ?_ | refine zaa 4 rfl rfl rfl ?_ | refine zaa 5 rfl rfl rfl ?_ | refine zab 0 rfl rfl rfl ?_ | refine zab 1 rfl rfl rfl ?_ | refine zab 2 rfl rfl rfl ?_ | refine zab 3 rfl rfl rfl ?_ | refine zab 4 rfl rfl rfl ?_ | refine zab 5 rfl rfl rfl ?_) | ((with_reducible refine zcx ?_); refine zce rfl ?_) | ((with_reducible refine zda ?_); first | refine zbe rfl rfl (by omega) ?_ | refine zbf rfl rfl (by omega) ?_ | refine zbg rfl rfl (by omega) ?_ | refine zbh rfl rfl (by omega) ?_ | refine zau rfl rfl (by omega) ?_ | refine zbp rfl rfl ?_ | refine zbq rfl rfl ?_ | refine zba rfl rfl ?_) | ((with_reducible refine zdf ?_); first | refine zas rfl rfl (by omega) ?_ | refine zat rfl rfl (by omega) ?_))
    all_goals refine zch ?_
    all_goals repeat (first | refine zck ?_ | refine zcl ?_ | refine zcm ?_ | refine zcn ?_)
    refine zcj rfl ?_
    repeat (first | refine zck ?_ | refine zcl ?_ | refine zcm ?_ | refine zcn ?_ | refine zco ?_)
    repeat (first | refine zck ?_ | refine zcl ?_ | refine zcm ?_ | refine zcn ?_)
    first | refine zcp (by kernel_rfl) ?_ | refine zcq PP_mixed (by kernel_rfl) (by kernel_rfl) ?_
    repeat' (refine zap rfl ?_; first | ((with_reducible refine zcu ?_); refine zan rfl ?_) | ((with_reducible refine zcv ?_); refine zan rfl ?_) | ((with_reducible refine zcw ?_); first | refine zaa 0 rfl rfl rfl ?_ | refine zaa 1 rfl rfl rfl ?_ | refine zaa 2 rfl rfl rfl ?_ | refine zaa 3 rfl rfl rfl ?_ | refine zaa 4 rfl rfl rfl ?_ | refine zaa 5 rfl rfl rfl ?_ | refine zab 0 rfl rfl rfl ?_ | refine zab 1 rfl rfl rfl ?_ | refine zab 2 rfl rfl rfl ?_ | refine zab 3 rfl rfl rfl ?_ | refine zab 4 rfl rfl rfl ?_ | refine zab 5 rfl rfl rfl ?_) | ((with_reducible refine zcx ?_); refine zce rfl ?_) | ((with_reducible refine zda ?_); first | refine zbe rfl rfl (by omega) ?_ | refine zbf rfl rfl (by omega) ?_ | refine zbg rfl rfl (by omega) ?_ | refine zbh rfl rfl (by omega) ?_ | refine zau rfl rfl (by omega) ?_ | refine zbp rfl rfl ?_ | refine zbq rfl rfl ?_ | refine zba rfl rfl ?_) | ((with_reducible refine zdf ?_); first | refine zas rfl rfl (by omega) ?_ | refine zat rfl rfl (by omega) ?_))
    all_goals refine zch ?_
    all_goals repeat (first | refine zck ?_ | refine zcl ?_ | refine zcm ?_ | refine zcn ?_)
    refine run_loop (S := Nat) (fun k => [(0, .slice a1 l1.length c1), (1, .slice a2 l2.length c2), (5, .int .i64 (k : Int))])
      (fun k Γ => Γ = [] ∧ k ≤ l1.length ∧ l1.take k = l2.take k) (fun k => l1.length - k) 0 ⟨rfl, rfl, rfl, trivial⟩ ⟨rfl, Nat.zero_le _, by simp⟩ ?_
    rintro k Γ junk ⟨rfl, hk, ht⟩
    by_cases hlt : k < l1.length
    · have hx : l1[k]? = some l1[k] := List.getElem?_eq_getElem hlt
      have hy : l2[k]? = some l2[k] := List.getElem?_eq_getElem (by omega)
      generalize l1[k] = x at hx
      generalize l2[k] = y at hy
      obtain ⟨b1, o1, cc1, T1, fr1, rfl, g1, r1⟩ := h1.at hx
      obtain ⟨b2, o2, cc2, T2, fr2, rfl, g2, r2⟩ := h2.at hy
      by_cases hxy : x = y
      · repeat' (first | refine zck ?_ | refine zcp (by kernel_rfl) ?_ | refine zcq PP_mixed (by kernel_rfl) (by kernel_rfl) ?_ | refine zcm ?_ | refine zcl ?_ | refine zcn ?_ | refine zco ?_ | refine zcs rfl ?_ | (refine zap rfl ?_; first | refine zad rfl g1 (r1 _ (by omega)) ?_ | refine zad rfl g2 (r2 _ (by omega)) ?_ | ((with_reducible refine zcu ?_); refine zan rfl ?_) | ((with_reducible refine zcv ?_); refine zan rfl ?_) | ((with_reducible refine zcw ?_); first | refine zaa 0 rfl rfl rfl ?_ | refine zaa 1 rfl rfl rfl ?_ | refine zaa 2 rfl rfl rfl ?_ | refine zaa 3 rfl rfl rfl ?_ | refine zaa 4 rfl rfl rfl ?_ | refine zaa 5 rfl rfl rfl ?_ | refine zab 0 rfl rfl rfl ?_ | refine zab 1 rfl rfl rfl ?_ | refine zab 2 rfl rfl rfl ?_ | refine zab 3 rfl rfl rfl ?_ | refine zab 4 rfl rfl rfl ?_ | refine zab 5 rfl rfl rfl ?_) | ((with_reducible refine zcx ?_); refine zce rfl ?_) | ((with_reducible refine zda ?_); first | refine zbe rfl rfl (by omega) ?_ | refine zbf rfl rfl (by omega) ?_ | refine zbg rfl rfl (by omega) ?_ | refine zbh rfl rfl (by omega) ?_ | refine zau rfl rfl (by omega) ?_ | refine zbp rfl rfl ?_ | refine zbq rfl rfl ?_ | refine zba rfl rfl ?_) | ((with_reducible refine zdf ?_); first | refine zas rfl rfl (by omega) ?_ | refine zat rfl rfl (by omega) ?_)) | refine zch ?_ | refine zci rfl ?_ | refine zcj rfl ?_)
        refine cut_end ⟨rfl, k + 1, ⟨rfl, rfl, int_eq (by omega), trivial⟩, ⟨rfl, hlt, ?_⟩, by omega⟩
        rw [List.take_add_one, List.take_add_one, ht, hx, hy, hxy]
      · repeat' (first | refine zck ?_ | refine zcp (by kernel_rfl) ?_ | refine zcq PP_mixed (by kernel_rfl) (by kernel_rfl) ?_ | refine zcm ?_ | refine zcl ?_ | refine zcn ?_ | refine zco ?_ | refine zcs rfl ?_ | (refine zap rfl ?_; first | refine zad rfl g1 (r1 _ (by omega)) ?_ | refine zad rfl g2 (r2 _ (by omega)) ?_ | ((with_reducible refine zcu ?_); refine zan rfl ?_) | ((with_reducible refine zcv ?_); refine zan rfl ?_) | ((with_reducible refine zcw ?_); first | refine zaa 0 rfl rfl rfl ?_ | refine zaa 1 rfl rfl rfl ?_ | refine zaa 2 rfl rfl rfl ?_ | refine zaa 3 rfl rfl rfl ?_ | refine zaa 4 rfl rfl rfl ?_ | refine zaa 5 rfl rfl rfl ?_ | refine zab 0 rfl rfl rfl ?_ | refine zab 1 rfl rfl rfl ?_ | refine zab 2 rfl rfl rfl ?_ | refine zab 3 rfl rfl rfl ?_ | refine zab 4 rfl rfl rfl ?_ | refine zab 5 rfl rfl rfl ?_) | ((with_reducible refine zcx ?_); refine zce rfl ?_) | ((with_reducible refine zda ?_); first | refine zbe rfl rfl (by omega) ?_ | refine zbf rfl rfl (by omega) ?_ | refine zbg rfl rfl (by omega) ?_ | refine zbh rfl rfl (by omega) ?_ | refine zau rfl rfl (by omega) ?_ | refine zbp rfl rfl ?_ | refine zbq rfl rfl ?_ | refine zba rfl rfl ?_) | ((with_reducible refine zdf ?_); first | refine zas rfl rfl (by omega) ?_ | refine zat rfl rfl (by omega) ?_)) | refine zch ?_ | refine zci rfl ?_ | refine zcj rfl ?_)
        refine qret1 (fun _ _ h => h) rfl ⟨bool_eq (decide_eq_false ?_).symm, rfl⟩
        intro e; subst e; rw [hx] at hy; exact hxy (Option.some.inj hy)
    · repeat' (first | refine zck ?_ | refine zcp (by kernel_rfl) ?_ | refine zcq PP_mixed (by kernel_rfl) (by kernel_rfl) ?_ | refine zcm ?_ | refine zcl ?_ | refine zcn ?_ | refine zco ?_ | refine zcs rfl ?_ | (refine zap rfl ?_; first | ((with_reducible refine zcu ?_); refine zan rfl ?_) | ((with_reducible refine zcv ?_); refine zan rfl ?_) | ((with_reducible refine zcw ?_); first | refine zaa 0 rfl rfl rfl ?_ | refine zaa 1 rfl rfl rfl ?_ | refine zaa 2 rfl rfl rfl ?_ | refine zaa 3 rfl rfl rfl ?_ | refine zaa 4 rfl rfl rfl ?_ | refine zaa 5 rfl rfl rfl ?_ | refine zab 0 rfl rfl rfl ?_ | refine zab 1 rfl rfl rfl ?_ | refine zab 2 rfl rfl rfl ?_ | refine zab 3 rfl rfl rfl ?_ | refine zab 4 rfl rfl rfl ?_ | refine zab 5 rfl rfl rfl ?_) | ((with_reducible refine zcx ?_); refine zce rfl ?_) | ((with_reducible refine zda ?_); first | refine zbe rfl rfl (by omega) ?_ | refine zbf rfl rfl (by omega) ?_ | refine zbg rfl rfl (by omega) ?_ | refine zbh rfl rfl (by omega) ?_ | refine zau rfl rfl (by omega) ?_ | refine zbp rfl rfl ?_ | refine zbq rfl rfl ?_ | refine zba rfl rfl ?_) | ((with_reducible refine zdf ?_); first | refine zas rfl rfl (by omega) ?_ | refine zat rfl rfl (by omega) ?_)) | refine zch ?_ | refine zci rfl ?_ | refine zcj rfl ?_)
      refine cut_exit rfl rfl ?_
      repeat' (first | refine zck ?_ | refine zcp (by kernel_rfl) ?_ | refine zcq PP_mixed (by kernel_rfl) (by kernel_rfl) ?_ | refine zcm ?_ | refine zcl ?_ | refine zcn ?_ | refine zco ?_ | refine zcs rfl ?_ | (refine zap rfl ?_; first | ((with_reducible refine zcu ?_); refine zan rfl ?_) | ((with_reducible refine zcv ?_); refine zan rfl ?_) | ((with_reducible refine zcw ?_); first | refine zaa 0 rfl rfl rfl ?_ | refine zaa 1 rfl rfl rfl ?_ | refine zaa 2 rfl rfl rfl ?_ | refine zaa 3 rfl rfl rfl ?_ | refine zaa 4 rfl rfl rfl ?_ | refine zaa 5 rfl rfl rfl ?_ | refine zab 0 rfl rfl rfl ?_ | refine zab 1 rfl rfl rfl ?_ | refine zab 2 rfl rfl rfl ?_ | refine zab 3 rfl rfl rfl ?_ | refine zab 4 rfl rfl rfl ?_ | refine zab 5 rfl rfl rfl ?_) | ((with_reducible refine zcx ?_); refine zce rfl ?_) | ((with_reducible refine zda ?_); first | refine zbe rfl rfl (by omega) ?_ | refine zbf rfl rfl (by omega) ?_ | refine zbg rfl rfl (by omega) ?_ | refine zbh rfl rfl (by omega) ?_ | refine zau rfl rfl (by omega) ?_ | refine zbp rfl rfl ?_ | refine zbq rfl rfl ?_ | refine zba rfl rfl ?_) | ((with_reducible refine zdf ?_); first | refine zas rfl rfl (by omega) ?_ | refine zat rfl rfl (by omega) ?_)) | refine zch ?_ | refine zci rfl ?_ | refine zcj rfl ?_)
      refine ret_tmp1 rfl ⟨bool_eq (decide_eq_true ?_).symm, rfl⟩
      rw [List.take_of_length_le (by omega), List.take_of_length_le (by omega)] at ht
      exact ht
  · repeat' (first | refine zck ?_ | refine zcp (by kernel_rfl) ?_ | refine zcq PP_mixed (by kernel_rfl) (by kernel_rfl) ?_ | refine zcm ?_ | refine zcl ?_ | refine zcn ?_ | refine zco ?_ | refine zcs rfl ?_ | (refine zap rfl ?_; first | ((with_reducible refine zcu ?_); refine zan rfl ?_) | ((with_reducible refine zcv ?_); refine zan rfl ?_) | ((with_reducible refine zcw ?_); first | refine zaa 0 rfl rfl rfl ?_ | refine zaa 1 rfl rfl rfl ?_ | refine zaa 2 rfl rfl rfl ?_ | refine zaa 3 rfl rfl rfl ?_ | refine zaa 4 rfl rfl rfl ?_ | refine zaa 5 rfl rfl rfl ?_ | refine zab 0 rfl rfl rfl ?_ | refine zab 1 rfl rfl rfl ?_ | refine zab 2 rfl rfl rfl ?_ | refine zab 3 rfl rfl rfl ?_ | refine zab 4 rfl rfl rfl ?_ | refine zab 5 rfl rfl rfl ?_) | ((with_reducible refine zcx ?_); refine zce rfl ?_) | ((with_reducible refine zda ?_); first | refine zbe rfl rfl (by omega) ?_ | refine zbf rfl rfl (by omega) ?_ | refine zbg rfl rfl (by omega) ?_ | refine zbh rfl rfl (by omega) ?_ | refine zau rfl rfl (by omega) ?_ | refine zbp rfl rfl ?_ | refine zbq rfl rfl ?_ | refine zba rfl rfl ?_) | ((with_reducible refine zdf ?_); first | refine zas rfl rfl (by omega) ?_ | refine zat rfl rfl (by omega) ?_)) | refine zch ?_ | refine zci rfl ?_ | refine zcj rfl ?_)
    refine ret_tmp1 rfl ⟨bool_eq (decide_eq_false ?_).symm, rfl⟩
    intro e; exact hl (by rw [e])

theorem set_spec (w0 : World) (sh : Shared) (va : Value) (l : List Int) (h1 : RdSl w0 sh encI 1 va l) (hb1 : l.length ≤ 1000000) (k : Nat) (hk : k < l.length) (kI x : Int) (hI : kI = k) :
    Vc.Fn PP w0 sh 22 [va, .int .i64 kI, .int .i64 x] [] fun v Γ => Γ = [LstA 2 v (l.set k x)] := by
  subst hI
  refine fn_of_run en22 fn22 rfl rfl rfl ?_
  repeat (first | refine zck ?_ | refine zcl ?_ | refine zcm ?_ | refine zcn ?_)
  first | refine zcp (by kernel_rfl) ?_ | refine zcq PP_mixed (by kernel_rfl) (by kernel_rfl) ?_
  repeat' (refine zap rfl ?_; first | ((with_reducible refine zct ?_); first | refine zaj rfl ?_ | refine zak rfl ?_ | refine zal rfl ?_ | refine zam rfl rfl (fun _ => ?_) (fun _ => ?_)) | ((with_reducible refine zcu ?_); refine zan rfl ?_) | ((with_reducible refine zcv ?_); refine zan rfl ?_) | ((with_reducible refine zcx ?_); refine zce rfl ?_) | ((with_reducible refine zda ?_); first | refine zbg rfl rfl (by omega) ?_ | refine zbh rfl rfl (by omega) ?_ | refine zbm rfl rfl (by omega) ?_ | refine zbn rfl rfl (by omega) ?_ | refine zbq rfl rfl ?_ | refine zbt rfl rfl ?_) | ((with_reducible refine zdc ?_); first | refine zbu rfl ?_ | refine zbv rfl ?_ | refine zbw rfl rfl rfl ?_) | ((with_reducible refine zdd ?_); first | refine zae 0 rfl rfl rfl rfl rfl rfl rfl ?_ | refine zae 1 rfl rfl rfl rfl rfl rfl rfl ?_ | refine zae 2 rfl rfl rfl rfl rfl rfl rfl ?_ | refine zae 3 rfl rfl rfl rfl rfl rfl rfl ?_ | refine zae 4 rfl rfl rfl rfl rfl rfl rfl ?_ | refine zae 5 rfl rfl rfl rfl rfl rfl rfl ?_) | ((with_reducible refine zdf ?_); first | refine zas rfl rfl (by omega) ?_ | refine zat rfl rfl (by omega) ?_))
  all_goals refine zch ?_
  all_goals repeat (first | refine zck ?_ | refine zcl ?_ | refine zcm ?_ | refine zcn ?_)
  repeat (first | refine zck ?_ | refine zcl ?_ | refine zcm ?_ | refine zcn ?_)
  first | refine zcp (by kernel_rfl) ?_ | refine zcq PP_mixed (by kernel_rfl) (by kernel_rfl) ?_
  repeat' (refine zap rfl ?_; first | refine reg_buildSlice rfl rfl rfl rfl rfl rfl (fun nb => ?_) | (refine reg_own 0 rfl rfl (len := 0) (cap := 0) (sz := 1) ⟨rfl, Nat.le_refl _, Nat.le_refl _⟩ rfl ?_; refine reg_append_rd 0 rfl rfl h1 rfl rfl (by first | omega | (constructor <;> omega)) (fun _ _ => rfl) (fun a' cap' => ?_)) | ((with_reducible refine zct ?_); first | refine zaj rfl ?_ | refine zak rfl ?_ | refine zal rfl ?_ | refine zam rfl rfl (fun _ => ?_) (fun _ => ?_)) | ((with_reducible refine zcu ?_); refine zan rfl ?_) | ((with_reducible refine zcv ?_); refine zan rfl ?_) | ((with_reducible refine zcx ?_); refine zce rfl ?_) | ((with_reducible refine zda ?_); first | refine zbg rfl rfl (by omega) ?_ | refine zbh rfl rfl (by omega) ?_ | refine zbm rfl rfl (by omega) ?_ | refine zbn rfl rfl (by omega) ?_ | refine zbq rfl rfl ?_ | refine zbt rfl rfl ?_) | ((with_reducible refine zdc ?_); first | refine zbu rfl ?_ | refine zbv rfl ?_ | refine zbw rfl rfl rfl ?_) | ((with_reducible refine zdd ?_); first | refine zae 0 rfl rfl rfl rfl rfl rfl rfl ?_ | refine zae 1 rfl rfl rfl rfl rfl rfl rfl ?_ | refine zae 2 rfl rfl rfl rfl rfl rfl rfl ?_ | refine zae 3 rfl rfl rfl rfl rfl rfl rfl ?_ | refine zae 4 rfl rfl rfl rfl rfl rfl rfl ?_ | refine zae 5 rfl rfl rfl rfl rfl rfl rfl ?_) | ((with_reducible refine zdf ?_); first | refine zas rfl rfl (by omega) ?_ | refine zat rfl rfl (by omega) ?_))
  all_goals refine zch ?_
  all_goals repeat (first | refine zck ?_ | refine zcl ?_ | refine zcm ?_ | refine zcn ?_)
  refine run_slots [(1, .int .i64 (k : Int)), (2, .int .i64 x), (7, .slice a' (0 + l.length) cap')] ⟨rfl, rfl, rfl, trivial⟩ (fun junk => ?_)
  repeat (first | refine zck ?_ | refine zcl ?_ | refine zcm ?_ | refine zcn ?_)
  first | refine zcp (by kernel_rfl) ?_ | refine zcq PP_mixed (by kernel_rfl) (by kernel_rfl) ?_
  repeat' (refine zap rfl ?_; first | ((with_reducible refine zct ?_); first | refine zaj rfl ?_ | refine zak rfl ?_ | refine zal rfl ?_ | refine zam rfl rfl (fun _ => ?_) (fun _ => ?_)) | ((with_reducible refine zcu ?_); refine zan rfl ?_) | ((with_reducible refine zcv ?_); refine zan rfl ?_) | ((with_reducible refine zcx ?_); refine zce rfl ?_) | ((with_reducible refine zda ?_); first | refine zbg rfl rfl (by omega) ?_ | refine zbh rfl rfl (by omega) ?_ | refine zbm rfl rfl (by omega) ?_ | refine zbn rfl rfl (by omega) ?_ | refine zbq rfl rfl ?_ | refine zbt rfl rfl ?_) | ((with_reducible refine zdc ?_); first | refine zbu rfl ?_ | refine zbv rfl ?_ | refine zbw rfl rfl rfl ?_) | ((with_reducible refine zdd ?_); first | refine zae 0 rfl rfl rfl rfl rfl rfl rfl ?_ | refine zae 1 rfl rfl rfl rfl rfl rfl rfl ?_ | refine zae 2 rfl rfl rfl rfl rfl rfl rfl ?_ | refine zae 3 rfl rfl rfl rfl rfl rfl rfl ?_ | refine zae 4 rfl rfl rfl rfl rfl rfl rfl ?_ | refine zae 5 rfl rfl rfl rfl rfl rfl rfl ?_) | ((with_reducible refine zdf ?_); first | refine zas rfl rfl (by omega) ?_ | refine zat rfl rfl (by omega) ?_))
  all_goals refine zch ?_
  all_goals repeat (first | refine zck ?_ | refine zcl ?_ | refine zcm ?_ | refine zcn ?_)
  refine zci rfl ?_
  refine run_sl_cases 0 rfl (fun _ hz _ _ => absurd hz (by omega)) ?_
  intro lb e1 e2 e3
  subst e1
  have hwr : ∀ o, o = k → wr [Value.int .i64 x] o ([] ++ intsV l) = some (intsV (l.set k x)) := fun o ho => by
    subst ho; exact wr_ints l _ x hk
  repeat' (first | refine zck ?_ | refine zcp (by kernel_rfl) ?_ | refine zcq PP_mixed (by kernel_rfl) (by kernel_rfl) ?_ | refine zcm ?_ | refine zcl ?_ | refine zcn ?_ | refine zco ?_ | refine zcs rfl ?_ | (refine zap rfl ?_; first | refine zaf 0 rfl rfl rfl rfl rfl (hwr _ (by omega)) rfl ?_ | ((with_reducible refine zct ?_); first | refine zaj rfl ?_ | refine zak rfl ?_ | refine zal rfl ?_ | refine zam rfl rfl (fun _ => ?_) (fun _ => ?_)) | ((with_reducible refine zcu ?_); refine zan rfl ?_) | ((with_reducible refine zcv ?_); refine zan rfl ?_) | ((with_reducible refine zcx ?_); refine zce rfl ?_) | ((with_reducible refine zda ?_); first | refine zbg rfl rfl (by omega) ?_ | refine zbh rfl rfl (by omega) ?_ | refine zbm rfl rfl (by omega) ?_ | refine zbn rfl rfl (by omega) ?_ | refine zbq rfl rfl ?_ | refine zbt rfl rfl ?_) | ((with_reducible refine zdc ?_); first | refine zbu rfl ?_ | refine zbv rfl ?_ | refine zbw rfl rfl rfl ?_) | ((with_reducible refine zdd ?_); first | refine zae 0 rfl rfl rfl rfl rfl rfl rfl ?_ | refine zae 1 rfl rfl rfl rfl rfl rfl rfl ?_ | refine zae 2 rfl rfl rfl rfl rfl rfl rfl ?_ | refine zae 3 rfl rfl rfl rfl rfl rfl rfl ?_ | refine zae 4 rfl rfl rfl rfl rfl rfl rfl ?_ | refine zae 5 rfl rfl rfl rfl rfl rfl rfl ?_) | ((with_reducible refine zdf ?_); first | refine zas rfl rfl (by omega) ?_ | refine zat rfl rfl (by omega) ?_)) | refine zch ?_ | refine zci rfl ?_ | refine zcj rfl ?_)
  refine run_ret (leaves_nil (ends_conv (Γ' := [LstA 2 (.slice (some ⟨lb, 0, none⟩) (0 + l.length) cap') (l.set k x)]) (fun h hh => ?_) (ends_one rfl rfl ⟨rfl, rfl⟩)))
  exact Stars.one.2 ⟨_, cap', by rw [List.length_set, Nat.zero_add], by rw [List.length_set]; rw [Nat.zero_add] at hh; exact Stars.one.1 hh⟩
theorem set_lent (w0 : World) (va : Value) (l : List Int) (hb1 : l.length ≤ 1000000) (k : Nat) (hk : k < l.length) (kI x : Int) (hI : kI = k) :
    Vc.Fn PP w0 [] 22 [va, .int .i64 kI, .int .i64 x] [LstA 2 va l] fun v Γ => Γ = [LstA 2 v (l.set k x), LstA 2 va l] :=
  (Fn.lend en22 fun sh' _ hrd => set_spec w0 sh' va l hrd hb1 k hk kI x hI).mono fun v Γ' ⟨Γ'', h1, h2⟩ => by rw [h2, h1]; rfl
end Go.Proofs.YtilnknokgflkjaaDoor

/- The walks of tells and done. -/
namespace Go.Proofs.YtilnknokgflkjaaDoor
open Go.Vc Sim
set_option maxHeartbeats 4000000
theorem intsV_intL (l : List Int) : intsV l = intL l := rfl

theorem tells_spec (w0 : World) (hw : PowOk w0) (p : Nat) {K : Int} (hK : 0 ≤ K ∧ K ≤ 23) (l : List Int) (hl : l.length ≤ 200) (c : Nat) (v : Value) :
    FnE PP w0 [] 16 [spP p, arrV (a0 K), v] [ArrA p K l c, LA v l] (.bool true) [ArrA p K l c, LA v l] := by
  refine fn_of_run en16 fn16 rfl rfl rfl ?_
  refine run_lend [1] rfl (fun sh' _ hrd => ?_)
  obtain ⟨a, cap, rfl, -⟩ := id hrd
  repeat (first | refine zck ?_ | refine zcl ?_ | refine zcm ?_ | refine zcn ?_)
  first | refine zcp (by kernel_rfl) ?_ | refine zcq PP_mixed (by kernel_rfl) (by kernel_rfl) ?_
  repeat' (refine zap rfl ?_; first | ((with_reducible refine zct ?_); first | refine zaj rfl ?_ | refine zak rfl ?_ | refine zal rfl ?_ | refine zam rfl rfl (fun _ => ?_) (fun _ => ?_)) | ((with_reducible refine zcu ?_); refine zan rfl ?_) | ((with_reducible refine zcv ?_); refine zan rfl ?_) | ((with_reducible refine zcw ?_); first | refine zaa 0 rfl rfl rfl ?_ | refine zaa 1 rfl rfl rfl ?_ | refine zaa 2 rfl rfl rfl ?_ | refine zaa 3 rfl rfl rfl ?_ | refine zaa 4 rfl rfl rfl ?_ | refine zaa 5 rfl rfl rfl ?_ | refine zab 0 rfl rfl rfl ?_ | refine zab 1 rfl rfl rfl ?_ | refine zab 2 rfl rfl rfl ?_ | refine zab 3 rfl rfl rfl ?_ | refine zab 4 rfl rfl rfl ?_ | refine zab 5 rfl rfl rfl ?_) | ((with_reducible refine zcx ?_); refine zce rfl ?_) | ((with_reducible refine zcy ?_); refine zao rfl ?_) | ((with_reducible refine zcz ?_); refine zan rfl ?_) | ((with_reducible refine zda ?_); first | refine zbc rfl rfl (by omega) ?_ | refine zbd rfl rfl (by omega) ?_ | refine zau rfl rfl (by omega) ?_ | refine zav rfl rfl (by omega) ?_ | refine zbo rfl rfl ?_ | refine zaz rfl rfl ?_ | refine zbb rfl rfl ?_) | ((with_reducible refine zdc ?_); first | refine zbu rfl ?_ | refine zbv rfl ?_ | refine zbw rfl rfl rfl ?_) | ((with_reducible refine zdg ?_); first | refine zaq (cs := [_]) rfl (fun nb => ?_) | refine zaq (cs := [_, _]) rfl (fun nb => ?_) | refine zaq (cs := [_, _, _]) rfl (fun nb => ?_) | refine zaq (cs := [_, _, _, _]) rfl (fun nb => ?_) | refine zaq (cs := [_, _, _, _, _]) rfl (fun nb => ?_) | refine zaq (cs := [_, _, _, _, _, _]) rfl (fun nb => ?_) | refine zaq (cs := [_, _, _, _, _, _, _]) rfl (fun nb => ?_) | refine zaq (cs := [_, _, _, _, _, _, _, _]) rfl (fun nb => ?_)))
  all_goals refine zch ?_
  all_goals repeat (first | refine zck ?_ | refine zcl ?_ | refine zcm ?_ | refine zcn ?_)
  refine run_share [1] rfl ?_
  repeat (first | refine zck ?_ | refine zcl ?_ | refine zcm ?_ | refine zcn ?_)
  first | refine zcp (by kernel_rfl) ?_ | refine zcq PP_mixed (by kernel_rfl) (by kernel_rfl) ?_
  repeat' (refine zap rfl ?_; first | (refine zai [0] (walkA w0 hw p hK l c) rfl rfl rfl sub_nil ?_; rintro v Γ' ⟨a2, cap2, rfl, rfl⟩) | ((with_reducible refine zct ?_); first | refine zaj rfl ?_ | refine zak rfl ?_ | refine zal rfl ?_ | refine zam rfl rfl (fun _ => ?_) (fun _ => ?_)) | ((with_reducible refine zcu ?_); refine zan rfl ?_) | ((with_reducible refine zcv ?_); refine zan rfl ?_) | ((with_reducible refine zcw ?_); first | refine zaa 0 rfl rfl rfl ?_ | refine zaa 1 rfl rfl rfl ?_ | refine zaa 2 rfl rfl rfl ?_ | refine zaa 3 rfl rfl rfl ?_ | refine zaa 4 rfl rfl rfl ?_ | refine zaa 5 rfl rfl rfl ?_ | refine zab 0 rfl rfl rfl ?_ | refine zab 1 rfl rfl rfl ?_ | refine zab 2 rfl rfl rfl ?_ | refine zab 3 rfl rfl rfl ?_ | refine zab 4 rfl rfl rfl ?_ | refine zab 5 rfl rfl rfl ?_) | ((with_reducible refine zcx ?_); refine zce rfl ?_) | ((with_reducible refine zcy ?_); refine zao rfl ?_) | ((with_reducible refine zcz ?_); refine zan rfl ?_) | ((with_reducible refine zda ?_); first | refine zbc rfl rfl (by omega) ?_ | refine zbd rfl rfl (by omega) ?_ | refine zau rfl rfl (by omega) ?_ | refine zav rfl rfl (by omega) ?_ | refine zbo rfl rfl ?_ | refine zaz rfl rfl ?_ | refine zbb rfl rfl ?_) | ((with_reducible refine zdc ?_); first | refine zbu rfl ?_ | refine zbv rfl ?_ | refine zbw rfl rfl rfl ?_) | ((with_reducible refine zdg ?_); first | refine zaq (cs := [_]) rfl (fun nb => ?_) | refine zaq (cs := [_, _]) rfl (fun nb => ?_) | refine zaq (cs := [_, _, _]) rfl (fun nb => ?_) | refine zaq (cs := [_, _, _, _]) rfl (fun nb => ?_) | refine zaq (cs := [_, _, _, _, _]) rfl (fun nb => ?_) | refine zaq (cs := [_, _, _, _, _, _]) rfl (fun nb => ?_) | refine zaq (cs := [_, _, _, _, _, _, _]) rfl (fun nb => ?_) | refine zaq (cs := [_, _, _, _, _, _, _, _]) rfl (fun nb => ?_)))
  all_goals refine zch ?_
  all_goals repeat (first | refine zck ?_ | refine zcl ?_ | refine zcm ?_ | refine zcn ?_)
  refine run_slots [(0, spP p), (2, .slice a l.length cap), (4, .pointer (some ⟨nb, 0, none⟩)), (7, .slice a2 l.length cap2), (8, .int .i64 0)] ⟨rfl, rfl, rfl, rfl, rfl, trivial⟩ (fun junk => ?_)
  refine run_close (A := LA (.slice a2 l.length cap2) l) [1] rfl (fun h hh => ⟨a2, cap2, rfl, Stars.one.1 hh⟩) ?_
  refine run_lend [0] rfl (fun sh2 hsub hrd2 => ?_)
  have hS : FnE PP w0 sh2 21 [.slice a2 l.length cap2, .slice a l.length cap] [] (.bool true) [] := by
    have h := same_spec w0 sh2 _ _ l l hrd2 (hrd.mono (fun p hp => hsub p (List.mem_cons_of_mem _ hp))) (by omega) (by omega)
    rw [decide_eq_true rfl] at h; exact h
  have hsh : (nb, Obj.cells #[.int .i64 3, .int .i64 24, .int .i64 K, .int .i64 8] 28 (0, 0)) ∈ sh2 := hsub _ (List.mem_cons_self ..)
  have hm : ∀ hF Γ w, Sh sh2 hF → St w0 hF Γ w → w.heap[nb]? = some (.cells (List.toArray [.int .i64 3, .int .i64 24, .int .i64 K, .int .i64 8]) 28 (0, 0)) := fun hF Γ w h1 h2 => (h2.frame (h1 _ hsh)).2
  have hL := leftA w0 hw p hK l c
  have hLn := lenA w0 hw p hK l c
  have hNd := nodesA w0 hw p hK l c 15 rfl
  have hRf := nodes_spec w0 l.length (by omega) l.length rfl
  have hTb := T_bd l.length (by omega)
  repeat (first | refine zck ?_ | refine zcl ?_ | refine zcm ?_ | refine zcn ?_)
  first | refine zcp (by kernel_rfl) ?_ | refine zcq PP_mixed (by kernel_rfl) (by kernel_rfl) ?_
  repeat' (refine zap rfl ?_; first | refine zad rfl hm rfl ?_ | ((with_reducible refine zct ?_); first | refine zaj rfl ?_ | refine zak rfl ?_ | refine zal rfl ?_ | refine zam rfl rfl (fun _ => ?_) (fun _ => ?_)) | ((with_reducible refine zcu ?_); refine zan rfl ?_) | ((with_reducible refine zcv ?_); refine zan rfl ?_) | ((with_reducible refine zcw ?_); first | refine zaa 0 rfl rfl rfl ?_ | refine zaa 1 rfl rfl rfl ?_ | refine zaa 2 rfl rfl rfl ?_ | refine zaa 3 rfl rfl rfl ?_ | refine zaa 4 rfl rfl rfl ?_ | refine zaa 5 rfl rfl rfl ?_ | refine zab 0 rfl rfl rfl ?_ | refine zab 1 rfl rfl rfl ?_ | refine zab 2 rfl rfl rfl ?_ | refine zab 3 rfl rfl rfl ?_ | refine zab 4 rfl rfl rfl ?_ | refine zab 5 rfl rfl rfl ?_) | ((with_reducible refine zcx ?_); first | refine zah [] hS rfl rfl rfl (fun _ h => h) rfl ?_ | refine zah [0] hLn rfl rfl rfl sub_nil rfl ?_ | refine zah [0] hL rfl rfl rfl sub_nil rfl ?_ | refine zah [] hRf rfl rfl rfl sub_nil rfl ?_ | refine zah [0] hNd rfl rfl rfl sub_nil rfl ?_ | refine zce rfl ?_) | ((with_reducible refine zcy ?_); refine zao rfl ?_) | ((with_reducible refine zcz ?_); refine zan rfl ?_) | ((with_reducible refine zda ?_); first | refine zbc rfl rfl (by omega) ?_ | refine zbd rfl rfl (by omega) ?_ | refine zau rfl rfl (by omega) ?_ | refine zav rfl rfl (by omega) ?_ | refine zbo rfl rfl ?_ | refine zaz rfl rfl ?_ | refine zbb rfl rfl ?_) | ((with_reducible refine zdc ?_); first | refine zbu rfl ?_ | refine zbv rfl ?_ | refine zbw rfl rfl rfl ?_) | ((with_reducible refine zdg ?_); first | refine zaq (cs := [_]) rfl (fun nb => ?_) | refine zaq (cs := [_, _]) rfl (fun nb => ?_) | refine zaq (cs := [_, _, _]) rfl (fun nb => ?_) | refine zaq (cs := [_, _, _, _]) rfl (fun nb => ?_) | refine zaq (cs := [_, _, _, _, _]) rfl (fun nb => ?_) | refine zaq (cs := [_, _, _, _, _, _]) rfl (fun nb => ?_) | refine zaq (cs := [_, _, _, _, _, _, _]) rfl (fun nb => ?_) | refine zaq (cs := [_, _, _, _, _, _, _, _]) rfl (fun nb => ?_)))
  all_goals refine zch ?_
  all_goals repeat (first | refine zck ?_ | refine zcl ?_ | refine zcm ?_ | refine zcn ?_)
  refine run_ret (leaves_nil (ends_take [0, 1] rfl (ends_one rfl rfl ⟨rfl, rfl, rfl⟩)))
end Go.Proofs.YtilnknokgflkjaaDoor

/- The walk of done. -/
namespace Sim
structure Act39 where
  kind : Int
  i : Int
  j : Int
  v : Int
def Act39.ok (x : Act39) : Prop := (0 ≤ x.kind ∧ x.kind ≤ 255) ∧ Go.Vc.i64P x.i ∧ Go.Vc.i64P x.j ∧ Go.Vc.i64P x.v
def Act39.cells (x : Act39) : List Go.Value := [.int .u8 x.kind, .int .i64 x.i, .int .i64 x.j, .int .i64 x.v]
def stepL (K : Int) (l : List Int) (x : Act39) : List Int :=
  if x.kind % 7 = 3 then l.dropLast
  else if x.kind % 7 = 4 then l
  else if x.kind % 7 = 5 then (if 0 ≤ x.i ∧ x.i < l.length then l.set x.i.toNat x.v else l)
  else if x.kind % 7 = 6 then (if (0 ≤ x.i ∧ x.i < l.length) ∧ (0 ≤ x.j ∧ x.j < l.length) then (l.set x.i.toNat (l.getD x.j.toNat 0)).set x.j.toNat (l.getD x.i.toNat 0) else l)
  else if (T (l.length + 1) : Int) ≤ K then l ++ [x.v] else l
end Sim
namespace Go.Proofs.YtilnknokgflkjaaDoor
open Go.Vc Sim
set_option maxHeartbeats 4000000
theorem nil_or_snoc (l : List Int) : l = [] ∨ ∃ l' y, l = l' ++ [y] := by
  rcases List.eq_nil_or_concat l with h | ⟨l', y, h⟩
  · exact .inl h
  · exact .inr ⟨l', y, by rw [h]; simp⟩
theorem tmod7 {m : Int} (h : 0 ≤ m) : m.tmod 7 = m % 7 := Int.tmod_eq_emod_of_nonneg h

theorem done_spec (w0 : World) (hw : PowOk w0) (p : Nat) {K : Int} (hK : 0 ≤ K ∧ K ≤ 23) (l : List Int) (hl : l.length ≤ 200) (c : Nat) (v : Value) (x : Act39) (hx : x.ok) :
    Vc.Fn PP w0 [] 15 [spP p, arrV (a0 K), v, .agg (List.toArray x.cells)] [ArrA p K l (c + 1), LA v l]
      fun r Γ => ∃ v' c', c ≤ c' ∧ r = .tuple #[v', .bool true] ∧ Γ = [ArrA p K (stepL K l x) c', LA v' (stepL K l x)] := by
  obtain ⟨hx1, hx2, hx3, hx4⟩ := hx
  refine fn_of_run en15 fn15 rfl rfl rfl ?_
  refine run_lend [1] rfl (fun sh' _ hrd => ?_)
  obtain ⟨a, cap, rfl, -⟩ := id hrd
  have hq := tmod7 (m := x.kind) (by omega)
  repeat (first | refine zck ?_ | refine zcl ?_ | refine zcm ?_ | refine zcn ?_)
  first | refine zcp (by kernel_rfl) ?_ | refine zcq PP_mixed (by kernel_rfl) (by kernel_rfl) ?_
  repeat' (refine zap rfl ?_; first | ((with_reducible refine zcv ?_); refine zan rfl ?_) | ((with_reducible refine zdg ?_); refine zaq (cs := [_, _, _, _]) rfl (fun nb => ?_)))
  all_goals refine zch ?_
  all_goals repeat (first | refine zck ?_ | refine zcl ?_ | refine zcm ?_ | refine zcn ?_)
  rename_i b5
  revert nb; intro b7
  refine run_share [1] rfl ?_
  refine run_share [1] rfl ?_
  repeat (first | refine zck ?_ | refine zcl ?_ | refine zcm ?_ | refine zcn ?_)
  first | refine zcp (by kernel_rfl) ?_ | refine zcq PP_mixed (by kernel_rfl) (by kernel_rfl) ?_
  repeat' (refine zap rfl ?_; first | ((with_reducible refine zcu ?_); refine zan rfl ?_) | ((with_reducible refine zcv ?_); refine zan rfl ?_) | ((with_reducible refine zcx ?_); refine zce rfl ?_))
  all_goals refine zch ?_
  all_goals repeat (first | refine zck ?_ | refine zcl ?_ | refine zcm ?_ | refine zcn ?_)
  refine run_slots [(0, spP p), (2, .slice a l.length cap), (5, .pointer (some ⟨b5, 0, none⟩)), (7, .pointer (some ⟨b7, 0, none⟩)), (9, .bool false), (10, .int .i64 l.length)] ⟨rfl, rfl, rfl, rfl, rfl, rfl, trivial⟩ (fun junk => ?_)
  refine run_bind_eq (l' := [(0, spP p), (2, .slice a l.length cap), (5, .pointer (some ⟨b5, 0, none⟩)), (7, .pointer (some ⟨b7, 0, none⟩)), (9, .bool false), (10, .int .i64 l.length), (11, .bool (decide (0 ≤ x.i ∧ x.i < l.length)))]) (Γ' := [ArrA p K l (c + 1)]) ?_ ?_
  · by_cases h0 : 0 ≤ x.i
    · by_cases h1 : x.i < l.length
      · repeat' (first | refine zcp (by kernel_rfl) ?_ | (refine zap rfl ?_; first | ((with_reducible refine zct ?_); refine zaj rfl ?_) | ((with_reducible refine zcu ?_); refine zan rfl ?_) | ((with_reducible refine zcv ?_); refine zan rfl ?_) | ((with_reducible refine zcw ?_); refine zaa 0 rfl rfl rfl ?_) | ((with_reducible refine zcy ?_); refine zao rfl ?_) | ((with_reducible refine zda ?_); first | refine zbg rfl rfl (by omega) ?_ | refine zbm rfl rfl (by omega) ?_) | ((with_reducible refine zdc ?_); refine zbu rfl ?_)) | refine zch ?_)
        refine cut_end ⟨rfl, ⟨rfl, rfl, rfl, rfl, rfl, rfl, bool_eq (decide_eq_true ⟨h0, h1⟩).symm, trivial⟩, rfl⟩
      · repeat' (first | refine zcp (by kernel_rfl) ?_ | (refine zap rfl ?_; first | ((with_reducible refine zct ?_); refine zaj rfl ?_) | ((with_reducible refine zcu ?_); refine zan rfl ?_) | ((with_reducible refine zcv ?_); refine zan rfl ?_) | ((with_reducible refine zcw ?_); refine zaa 0 rfl rfl rfl ?_) | ((with_reducible refine zcy ?_); refine zao rfl ?_) | ((with_reducible refine zda ?_); first | refine zbh rfl rfl (by omega) ?_ | refine zbm rfl rfl (by omega) ?_) | ((with_reducible refine zdc ?_); refine zbu rfl ?_)) | refine zch ?_)
        refine cut_end ⟨rfl, ⟨rfl, rfl, rfl, rfl, rfl, rfl, bool_eq (decide_eq_false (fun h => h1 h.2)).symm, trivial⟩, rfl⟩
    · repeat' (first | refine zcp (by kernel_rfl) ?_ | (refine zap rfl ?_; first | ((with_reducible refine zct ?_); refine zak rfl ?_) | ((with_reducible refine zcu ?_); refine zan rfl ?_) | ((with_reducible refine zcv ?_); refine zan rfl ?_) | ((with_reducible refine zcw ?_); refine zaa 0 rfl rfl rfl ?_) | ((with_reducible refine zcy ?_); refine zao rfl ?_) | ((with_reducible refine zda ?_); refine zbn rfl rfl (by omega) ?_) | ((with_reducible refine zdc ?_); refine zbv rfl ?_)) | refine zch ?_)
      refine cut_end ⟨rfl, ⟨rfl, rfl, rfl, rfl, rfl, rfl, bool_eq (decide_eq_false (fun h => h0 h.1)).symm, trivial⟩, rfl⟩
  intro junk2
  repeat (first | refine zck ?_ | refine zcl ?_ | refine zcm ?_ | refine zcn ?_)
  first | refine zcp (by kernel_rfl) ?_ | refine zcq PP_mixed (by kernel_rfl) (by kernel_rfl) ?_
  repeat' (refine zap rfl ?_; first | (refine reg_rem rfl rfl (by decide) ?_; rw [hq]) | ((with_reducible refine zcw ?_); refine zaa 0 rfl rfl rfl ?_) | ((with_reducible refine zcy ?_); refine zao rfl ?_))
  all_goals refine zch ?_
  all_goals repeat (first | refine zck ?_ | refine zcl ?_ | refine zcm ?_ | refine zcn ?_)
  have hst : stepL K l x = stepL K l x := rfl
  conv at hst => rhs; unfold stepL
  generalize stepL K l x = r at hst
  generalize x.kind % 7 = q at hst hq
  have same : r = l → ∀ {ρ : Env} {c' : Nat}, c ≤ c' → ρ 8 = .slice a l.length cap → ρ 9 = .bool true →
      LeavesS PP w0 [] Tryd.f15 ρ [] [ArrA p K l c', LA (.slice a l.length cap) l] (fun r' Γ => ∃ v' c', c ≤ c' ∧ r' = .tuple #[v', .bool true] ∧ Γ = [ArrA p K r c', LA v' r]) := by
    intro hr ρ c' hc h8 h9
    subst hr
    exact leaves_nil (ends_two rfl h8 h9 ⟨_, c', hc, rfl, rfl⟩)
  by_cases h3 : q = 3
  · rw [if_pos h3] at hst
    rcases nil_or_snoc l with rfl | ⟨l', y, rfl⟩
    · have hP := popA_none w0 hw p hK c
      repeat' (first | refine zck ?_ | refine zcp (by kernel_rfl) ?_ | (refine zap rfl ?_; first | ((with_reducible refine zct ?_); refine zaj rfl ?_) | ((with_reducible refine zcu ?_); refine zan rfl ?_) | ((with_reducible refine zcv ?_); refine zan rfl ?_) | ((with_reducible refine zcw ?_); refine zaa 1 rfl rfl rfl ?_) | ((with_reducible refine zcx ?_); refine zah [0] hP rfl rfl rfl sub_nil rfl ?_) | ((with_reducible refine zcz ?_); refine zan rfl ?_) | ((with_reducible refine zda ?_); first | refine zbc rfl rfl (by omega) ?_ | refine zbo rfl rfl ?_) | ((with_reducible refine zdc ?_); refine zbu rfl ?_)) | refine zch ?_ | refine zci rfl ?_)
      exact run_ret (same (by simpa using hst) (Nat.le_refl _) rfl rfl)
    · have hP := popA w0 hw p hK l' c y
      have hlen : (l' ++ [y]).length = l'.length + 1 := by simp
      have hy : (l' ++ [y])[l'.length]? = some y := by simp
      obtain ⟨b1, o1, cc1, T1, fr1, rfl, g1, r1⟩ := hrd.at hy
      have hcap := hrd.cap
      repeat' (first | refine zck ?_ | refine zcp (by kernel_rfl) ?_ | refine zcq PP_mixed (by kernel_rfl) (by kernel_rfl) ?_ | refine zcm ?_ | (refine zap rfl ?_; first | refine zad rfl (fun hF Γ w h1 h2 => g1 hF Γ w (fun p hp => h1 p (List.mem_cons_of_mem _ (List.mem_cons_of_mem _ hp))) h2) (r1 _ (by omega)) ?_ | refine reg_slice2 rfl rfl (by omega) ?_ | ((with_reducible refine zct ?_); refine zaj rfl ?_) | ((with_reducible refine zcu ?_); refine zan rfl ?_) | ((with_reducible refine zcv ?_); refine zan rfl ?_) | ((with_reducible refine zcw ?_); refine zaa 1 rfl rfl rfl ?_) | ((with_reducible refine zcx ?_); refine zah [0] hP rfl rfl rfl sub_nil rfl ?_) | ((with_reducible refine zcz ?_); refine zan rfl ?_) | ((with_reducible refine zda ?_); first | refine zbc rfl rfl (by omega) ?_ | refine zbd rfl rfl (by omega) ?_ | refine zav rfl rfl (by omega) ?_) | ((with_reducible refine zdc ?_); refine zbu rfl ?_) | ((with_reducible refine zdf ?_); refine zas rfl rfl (by omega) ?_)) | refine zch ?_ | refine zci rfl ?_ | refine zcj rfl ?_)
      refine run_ret (leaves_nil (ends_conv (Γ' := [ArrA p K l' c, LA (.slice (some ⟨b1, o1, none⟩) (((l' ++ [y]).length : Int) - 1).toNat cap) l']) (fun h hh => stars_two (fun _ h => h) (fun g hg => ?_) hh) (ends_two rfl rfl rfl ⟨rfl, _, c, Nat.le_refl _, rfl, ?_⟩)))
      · have := LstA.cut (q := l'.length) hg (by omega) (((l' ++ [y]).length : Int) - 1).toNat (by omega)
        rw [List.take_left] at this; exact this
      · rw [List.dropLast_concat] at hst; rw [hst]; rfl
  rw [if_neg h3] at hst
  by_cases h4 : q = 4
  · rw [if_pos h4] at hst
    by_cases hin : 0 ≤ x.i ∧ x.i < l.length
    · rw [decide_eq_true hin]
      obtain ⟨k, hk⟩ : ∃ k : Nat, x.i = k := ⟨x.i.toNat, by omega⟩
      have hy : l[k]? = some l[k] := List.getElem?_eq_getElem (by omega)
      generalize l[k] = y at hy
      obtain ⟨b1, o1, cc1, T1, fr1, rfl, g1, r1⟩ := hrd.at hy
      have hG := getA w0 hw p hK l (c + 1) hy x.i hk
      repeat' (first | refine zck ?_ | refine zcp (by kernel_rfl) ?_ | refine zcm ?_ | (refine zap rfl ?_; first | refine zad rfl (fun hF Γ w h1 h2 => g1 hF Γ w (fun p hp => h1 p (List.mem_cons_of_mem _ (List.mem_cons_of_mem _ hp))) h2) (r1 _ (by omega)) ?_ | ((with_reducible refine zct ?_); refine zaj rfl ?_) | ((with_reducible refine zcu ?_); refine zan rfl ?_) | ((with_reducible refine zcv ?_); refine zan rfl ?_) | ((with_reducible refine zcw ?_); first | refine zaa 0 rfl rfl rfl ?_ | refine zaa 1 rfl rfl rfl ?_) | ((with_reducible refine zcx ?_); refine zah [0] hG rfl rfl rfl sub_nil rfl ?_) | ((with_reducible refine zcy ?_); refine zao rfl ?_) | ((with_reducible refine zcz ?_); refine zan rfl ?_) | ((with_reducible refine zda ?_); first | refine zbc rfl rfl (by omega) ?_ | refine zbd rfl rfl (by omega) ?_) | ((with_reducible refine zdb ?_); refine zbx rfl ?_) | ((with_reducible refine zdc ?_); refine zbu rfl ?_) | ((with_reducible refine zdf ?_); refine zas rfl rfl (by omega) ?_)) | refine zch ?_ | refine zci rfl ?_ | refine zcj rfl ?_)
      exact run_ret (same hst (Nat.le_succ _) rfl rfl)
    · rw [decide_eq_false hin]
      have hG := getA_out w0 hw p hK l (c + 1) (i := x.i) (by omega)
      repeat' (first | refine zck ?_ | refine zcp (by kernel_rfl) ?_ | (refine zap rfl ?_; first | ((with_reducible refine zct ?_); refine zaj rfl ?_) | ((with_reducible refine zcu ?_); refine zan rfl ?_) | ((with_reducible refine zcv ?_); refine zan rfl ?_) | ((with_reducible refine zcw ?_); first | refine zaa 0 rfl rfl rfl ?_ | refine zaa 1 rfl rfl rfl ?_) | ((with_reducible refine zcx ?_); refine zah [0] hG rfl rfl rfl sub_nil rfl ?_) | ((with_reducible refine zcy ?_); refine zao rfl ?_) | ((with_reducible refine zcz ?_); refine zan rfl ?_) | ((with_reducible refine zda ?_); first | refine zbc rfl rfl (by omega) ?_ | refine zbd rfl rfl (by omega) ?_) | ((with_reducible refine zdb ?_); refine zbx rfl ?_) | ((with_reducible refine zdc ?_); refine zbu rfl ?_)) | refine zch ?_ | refine zci rfl ?_ | refine zcj rfl ?_)
      exact run_ret (same hst (Nat.le_succ _) rfl rfl)
  rw [if_neg h4] at hst
  by_cases h5 : q = 5
  · rw [if_pos h5] at hst
    by_cases hin : 0 ≤ x.i ∧ x.i < l.length
    · rw [decide_eq_true hin]
      rw [if_pos hin] at hst
      obtain ⟨k, hk⟩ : ∃ k : Nat, x.i = k := ⟨x.i.toNat, by omega⟩
      have hkl : k < l.length := by omega
      have hy : l[k]? = some l[k] := List.getElem?_eq_getElem hkl
      generalize l[k] = y at hy
      obtain ⟨b1, o1, cc1, T1, fr1, rfl, g1, r1⟩ := hrd.at hy
      have hG := setA w0 hw p hK l c x.v hy x.i hk
      have hS := set_spec w0 sh' _ l hrd (by omega) k hkl x.i x.v hk
      rw [hk, Int.toNat_natCast] at hst
      repeat' (first | refine zck ?_ | refine zcp (by kernel_rfl) ?_ | refine zcq PP_mixed (by kernel_rfl) (by kernel_rfl) ?_ | refine zcm ?_ | (refine zap rfl ?_; first | refine zad rfl (fun hF Γ w h1 h2 => g1 hF Γ w (fun p hp => h1 p (List.mem_cons_of_mem _ (List.mem_cons_of_mem _ hp))) h2) (r1 _ (by omega)) ?_ | (refine zai [] hS rfl rfl rfl (fun p hp => List.mem_cons_of_mem _ (List.mem_cons_of_mem _ hp)) ?_; rintro v1 Γ1 rfl) | ((with_reducible refine zct ?_); refine zaj rfl ?_) | ((with_reducible refine zcu ?_); refine zan rfl ?_) | ((with_reducible refine zcv ?_); refine zan rfl ?_) | ((with_reducible refine zcw ?_); first | refine zaa 0 rfl rfl rfl ?_ | refine zaa 1 rfl rfl rfl ?_) | ((with_reducible refine zcx ?_); refine zah [0] hG rfl rfl rfl sub_nil rfl ?_) | ((with_reducible refine zcy ?_); refine zao rfl ?_) | ((with_reducible refine zcz ?_); refine zan rfl ?_) | ((with_reducible refine zda ?_); first | refine zbc rfl rfl (by omega) ?_ | refine zbd rfl rfl (by omega) ?_) | ((with_reducible refine zdb ?_); refine zbx rfl ?_) | ((with_reducible refine zdc ?_); refine zbu rfl ?_) | ((with_reducible refine zdf ?_); refine zas rfl rfl (by omega) ?_)) | refine zch ?_ | refine zci rfl ?_ | refine zcj rfl ?_)
      rw [← hst]
      exact run_ret (leaves_nil (ends_take [1, 0] rfl (ends_two rfl rfl rfl ⟨rfl, _, c, Nat.le_refl _, rfl, rfl⟩)))
    · rw [decide_eq_false hin]
      rw [if_neg hin] at hst
      have hG := setA_out w0 hw p hK l c (i := x.i) x.v (by omega)
      repeat' (first | refine zck ?_ | refine zcp (by kernel_rfl) ?_ | (refine zap rfl ?_; first | ((with_reducible refine zct ?_); refine zaj rfl ?_) | ((with_reducible refine zcu ?_); refine zan rfl ?_) | ((with_reducible refine zcv ?_); refine zan rfl ?_) | ((with_reducible refine zcw ?_); first | refine zaa 0 rfl rfl rfl ?_ | refine zaa 1 rfl rfl rfl ?_) | ((with_reducible refine zcx ?_); refine zah [0] hG rfl rfl rfl sub_nil rfl ?_) | ((with_reducible refine zcy ?_); refine zao rfl ?_) | ((with_reducible refine zcz ?_); refine zan rfl ?_) | ((with_reducible refine zda ?_); first | refine zbc rfl rfl (by omega) ?_ | refine zbd rfl rfl (by omega) ?_) | ((with_reducible refine zdb ?_); refine zbx rfl ?_) | ((with_reducible refine zdc ?_); refine zbu rfl ?_)) | refine zch ?_ | refine zci rfl ?_ | refine zcj rfl ?_)
      exact run_ret (same hst (Nat.le_refl _) rfl rfl)
  rw [if_neg h5] at hst
  by_cases h6 : q = 6
  · rw [if_pos h6] at hst
    by_cases hin : 0 ≤ x.i ∧ x.i < l.length
    · rw [decide_eq_true hin]
      by_cases hjn : 0 ≤ x.j ∧ x.j < l.length
      · rw [if_pos ⟨hin, hjn⟩] at hst
        obtain ⟨k, hk⟩ : ∃ k : Nat, x.i = k := ⟨x.i.toNat, by omega⟩
        obtain ⟨m, hm⟩ : ∃ k : Nat, x.j = k := ⟨x.j.toNat, by omega⟩
        have hkl : k < l.length := by omega
        have hml : m < l.length := by omega
        have hy : l[k]? = some (l.getD k 0) := by rw [List.getD_eq_getElem?_getD, List.getElem?_eq_getElem hkl]; rfl
        have hz : l[m]? = some (l.getD m 0) := by rw [List.getD_eq_getElem?_getD, List.getElem?_eq_getElem hml]; rfl
        rw [hk, hm, Int.toNat_natCast, Int.toNat_natCast] at hst
        generalize l.getD k 0 = y at hy hst
        generalize l.getD m 0 = z at hz hst
        obtain ⟨b1, o1, cc1, T1, fr1, rfl, g1, r1⟩ := hrd.at hy
        obtain ⟨b2, o2, cc2, T2, fr2, e2, g2, r2⟩ := hrd.at hz
        cases e2
        have hG := swapA w0 hw p hK l c hy hz x.i x.j hk hm
        have hS := set_spec w0 sh' _ l hrd (by omega) k hkl x.i z hk
        have hS2 := fun v => set_lent w0 v (l.set k z) (by rw [List.length_set]; omega) m (by rw [List.length_set]; exact hml) x.j y hm
        repeat' (first | refine zck ?_ | refine zcp (by kernel_rfl) ?_ | refine zcq PP_mixed (by kernel_rfl) (by kernel_rfl) ?_ | refine zcm ?_ | (refine zap rfl ?_; first | refine zad rfl (fun hF Γ w h1 h2 => g1 hF Γ w (fun p hp => h1 p (List.mem_cons_of_mem _ (List.mem_cons_of_mem _ hp))) h2) (r1 _ (by omega)) ?_ | refine zad rfl (fun hF Γ w h1 h2 => g2 hF Γ w (fun p hp => h1 p (List.mem_cons_of_mem _ (List.mem_cons_of_mem _ hp))) h2) (r2 _ (by omega)) ?_ | (refine zai [] hS rfl rfl rfl (fun p hp => List.mem_cons_of_mem _ (List.mem_cons_of_mem _ hp)) ?_; rintro v1 Γ1 rfl) | (refine zai [0] (hS2 _) rfl rfl rfl sub_nil ?_; rintro v2 Γ2 rfl) | ((with_reducible refine zct ?_); refine zaj rfl ?_) | ((with_reducible refine zcu ?_); refine zan rfl ?_) | ((with_reducible refine zcv ?_); refine zan rfl ?_) | ((with_reducible refine zcw ?_); first | refine zaa 0 rfl rfl rfl ?_ | refine zaa 1 rfl rfl rfl ?_) | ((with_reducible refine zcx ?_); refine zah [0] hG rfl rfl rfl sub_nil rfl ?_) | ((with_reducible refine zcy ?_); refine zao rfl ?_) | ((with_reducible refine zda ?_); first | refine zbc rfl rfl (by omega) ?_ | refine zbd rfl rfl (by omega) ?_ | refine zbh rfl rfl (by omega) ?_ | refine zbn rfl rfl (by omega) ?_) | ((with_reducible refine zdb ?_); refine zbx rfl ?_) | ((with_reducible refine zdc ?_); refine zbv rfl ?_) | ((with_reducible refine zdf ?_); refine zas rfl rfl (by omega) ?_)) | refine zch ?_ | refine zci rfl ?_ | refine zcj rfl ?_)
        rw [← hst]
        exact run_ret (leaves_nil (ends_take [2, 0] rfl (ends_two rfl rfl rfl ⟨rfl, _, c, Nat.le_refl _, rfl, rfl⟩)))
      · rw [if_neg (fun h => hjn h.2)] at hst
        have hG := swapA_out w0 hw p hK l c (i := x.i) (j := x.j) (by omega)
        by_cases hj0 : x.j < 0
        · repeat' (first | refine zck ?_ | refine zcp (by kernel_rfl) ?_ | (refine zap rfl ?_; first | ((with_reducible refine zct ?_); first | refine zaj rfl ?_ | refine zak rfl ?_) | ((with_reducible refine zcu ?_); refine zan rfl ?_) | ((with_reducible refine zcv ?_); refine zan rfl ?_) | ((with_reducible refine zcw ?_); first | refine zaa 0 rfl rfl rfl ?_ | refine zaa 1 rfl rfl rfl ?_) | ((with_reducible refine zcx ?_); refine zah [0] hG rfl rfl rfl sub_nil rfl ?_) | ((with_reducible refine zcy ?_); refine zao rfl ?_) | ((with_reducible refine zda ?_); first | refine zbc rfl rfl (by omega) ?_ | refine zbd rfl rfl (by omega) ?_ | refine zbg rfl rfl (by omega) ?_) | ((with_reducible refine zdb ?_); refine zbx rfl ?_) | ((with_reducible refine zdc ?_); first | refine zbu rfl ?_ | refine zbv rfl ?_)) | refine zch ?_ | refine zci rfl ?_ | refine zcj rfl ?_)
          exact run_ret (same hst (Nat.le_refl _) rfl rfl)
        · repeat' (first | refine zck ?_ | refine zcp (by kernel_rfl) ?_ | (refine zap rfl ?_; first | ((with_reducible refine zct ?_); refine zaj rfl ?_) | ((with_reducible refine zcu ?_); refine zan rfl ?_) | ((with_reducible refine zcv ?_); refine zan rfl ?_) | ((with_reducible refine zcw ?_); first | refine zaa 0 rfl rfl rfl ?_ | refine zaa 1 rfl rfl rfl ?_) | ((with_reducible refine zcx ?_); refine zah [0] hG rfl rfl rfl sub_nil rfl ?_) | ((with_reducible refine zcy ?_); refine zao rfl ?_) | ((with_reducible refine zda ?_); first | refine zbc rfl rfl (by omega) ?_ | refine zbd rfl rfl (by omega) ?_ | refine zbh rfl rfl (by omega) ?_ | refine zbm rfl rfl (by omega) ?_) | ((with_reducible refine zdb ?_); refine zbx rfl ?_) | ((with_reducible refine zdc ?_); refine zbv rfl ?_)) | refine zch ?_ | refine zci rfl ?_ | refine zcj rfl ?_)
          exact run_ret (same hst (Nat.le_refl _) rfl rfl)
    · rw [decide_eq_false hin]
      rw [if_neg (fun h => hin h.1)] at hst
      have hG := swapA_out w0 hw p hK l c (i := x.i) (j := x.j) (by omega)
      repeat' (first | refine zck ?_ | refine zcp (by kernel_rfl) ?_ | (refine zap rfl ?_; first | ((with_reducible refine zct ?_); refine zak rfl ?_) | ((with_reducible refine zcu ?_); refine zan rfl ?_) | ((with_reducible refine zcv ?_); refine zan rfl ?_) | ((with_reducible refine zcw ?_); first | refine zaa 0 rfl rfl rfl ?_ | refine zaa 1 rfl rfl rfl ?_) | ((with_reducible refine zcx ?_); refine zah [0] hG rfl rfl rfl sub_nil rfl ?_) | ((with_reducible refine zcy ?_); refine zao rfl ?_) | ((with_reducible refine zda ?_); first | refine zbc rfl rfl (by omega) ?_ | refine zbd rfl rfl (by omega) ?_) | ((with_reducible refine zdb ?_); refine zbx rfl ?_) | ((with_reducible refine zdc ?_); refine zbu rfl ?_)) | refine zch ?_ | refine zci rfl ?_ | refine zcj rfl ?_)
      exact run_ret (same hst (Nat.le_refl _) rfl rfl)
  rw [if_neg h6] at hst
  have hN := nodes_spec w0 (l.length + 1) (by omega) ((l.length : Int) + 1) (by omega)
  have hTb := T_bd (l.length + 1) (by omega)
  have hKn : (a0 K).pool.nodes = K := rfl
  by_cases hT : (T (l.length + 1) : Int) ≤ K
  · rw [if_pos hT] at hst
    have hP := pushA w0 hw p hK l c x.v hT
    repeat' (first | refine zck ?_ | refine zcp (by kernel_rfl) ?_ | refine zcq PP_mixed (by kernel_rfl) (by kernel_rfl) ?_ | refine zcm ?_ | refine zcn ?_ | (refine zap rfl ?_; first | refine reg_buildSlice rfl rfl rfl rfl rfl rfl (fun nb => ?_) | (refine reg_own 1 rfl rfl (len := 0) (cap := 0) (sz := 1) ⟨rfl, Nat.le_refl _, Nat.le_refl _⟩ rfl ?_; refine reg_append_rd 1 rfl rfl (hrd.mono (fun p hp => List.mem_cons_of_mem _ (List.mem_cons_of_mem _ hp))) rfl rfl (by first | omega | (constructor <;> omega)) (fun _ _ => rfl) (fun a' cap' => ?_)) | refine reg_append 1 2 rfl rfl rfl rfl rfl rfl rfl rfl (by first | omega | (constructor <;> omega)) (fun _ _ => rfl) (fun a'' cap'' => ?_) | ((with_reducible refine zct ?_); refine zaj rfl ?_) | ((with_reducible refine zcu ?_); refine zan rfl ?_) | ((with_reducible refine zcv ?_); refine zan rfl ?_) | ((with_reducible refine zcw ?_); first | refine zaa 0 rfl rfl rfl ?_ | refine zaa 1 rfl rfl rfl ?_) | ((with_reducible refine zcx ?_); first | refine zah [0] hP rfl rfl rfl sub_nil rfl ?_ | refine zah [] hN rfl rfl rfl sub_nil rfl ?_ | refine zce rfl ?_) | ((with_reducible refine zcy ?_); refine zao rfl ?_) | ((with_reducible refine zcz ?_); refine zan rfl ?_) | ((with_reducible refine zda ?_); first | refine zbc rfl rfl (by omega) ?_ | refine zbd rfl rfl (by omega) ?_ | refine zbl rfl rfl (by omega) ?_ | refine zau rfl rfl (by omega) ?_) | ((with_reducible refine zdc ?_); refine zbu rfl ?_)) | refine zch ?_ | refine zcj rfl ?_)

    refine run_ret (leaves_nil (ends_takeconv [0, 0] (Γ' := [ArrA p K (l ++ [x.v]) c, LA (.slice a'' (0 + l.length + 1) cap'') (l ++ [x.v])]) rfl (fun h hh => ?_) (ends_two rfl rfl rfl ⟨rfl, _, c, Nat.le_refl _, rfl, by rw [hst]; rfl⟩)))
    refine stars_two (fun _ h => h) (fun g hg => ?_) hh
    have h4 : SlA 2 1 a'' (0 + l.length + 1) cap'' ([] ++ intsV l ++ [.int .i64 x.v]) g := hg
    refine ⟨a'', cap'', by rw [List.length_append, Nat.zero_add]; rfl, ?_⟩
    rw [show intsV (l ++ [x.v]) = [] ++ intsV l ++ [.int .i64 x.v] by simp [intsV], show (l ++ [x.v]).length = 0 + l.length + 1 by simp]
    exact h4
  · rw [if_neg hT] at hst
    have hP := pushA_full w0 hw p hK l c x.v (by omega)
    repeat' (first | refine zck ?_ | refine zcp (by kernel_rfl) ?_ | refine zcq PP_mixed (by kernel_rfl) (by kernel_rfl) ?_ | refine zcm ?_ | refine zcn ?_ | (refine zap rfl ?_; first | ((with_reducible refine zct ?_); refine zaj rfl ?_) | ((with_reducible refine zcu ?_); refine zan rfl ?_) | ((with_reducible refine zcv ?_); refine zan rfl ?_) | ((with_reducible refine zcw ?_); first | refine zaa 0 rfl rfl rfl ?_ | refine zaa 1 rfl rfl rfl ?_) | ((with_reducible refine zcx ?_); first | refine zah [0] hP rfl rfl rfl sub_nil rfl ?_ | refine zah [] hN rfl rfl rfl sub_nil rfl ?_ | refine zce rfl ?_) | ((with_reducible refine zcy ?_); refine zao rfl ?_) | ((with_reducible refine zcz ?_); refine zan rfl ?_) | ((with_reducible refine zda ?_); first | refine zbc rfl rfl (by omega) ?_ | refine zbd rfl rfl (by omega) ?_ | refine zbk rfl rfl (by omega) ?_ | refine zau rfl rfl (by omega) ?_) | ((with_reducible refine zdc ?_); refine zbu rfl ?_)) | refine zch ?_ | refine zci rfl ?_ | refine zcj rfl ?_)
    exact run_ret (same hst (Nat.le_refl _) rfl rfl)
end Go.Proofs.YtilnknokgflkjaaDoor

/- The walk of ArrayWild. -/
namespace Sim
theorem cnt_congr {s s' : List Nat} (h : ∀ x, x ∈ s ↔ x ∈ s') : ∀ n, Go.Proofs.YtilnknokgflkjaaDoor.cnt n s = Go.Proofs.YtilnknokgflkjaaDoor.cnt n s'
  | 0 => rfl
  | n + 1 => by
    have e : (n ∈ s) = (n ∈ s') := propext (h n)
    simp only [Go.Proofs.YtilnknokgflkjaaDoor.cnt, cnt_congr h n, e]
theorem nodup_len (n : Nat) : ∀ (s : List Nat), s.Nodup → (∀ q ∈ s, q < n) → Go.Proofs.YtilnknokgflkjaaDoor.cnt n s + s.length = n
  | [], _, _ => by simp [Go.Proofs.YtilnknokgflkjaaDoor.cnt_nil]
  | q :: s, h, hl => by
    rw [List.nodup_cons] at h
    have h1 := nodup_len n s h.2 (fun x hx => hl x (List.mem_cons_of_mem _ hx))
    have h2 := (Go.Proofs.YtilnknokgflkjaaDoor.cnt_more q s h.1 n).2 (hl q (List.mem_cons_self ..))
    rw [cnt_congr (s := q :: s) (s' := s ++ [q]) (by intro x; simp; exact Or.comm) n]
    simp only [List.length_cons]; omega
theorem nodup_map_toNat : ∀ (l : List Int), l.Nodup → (∀ x ∈ l, 0 ≤ x) → (l.map Int.toNat).Nodup
  | [], _, _ => List.nodup_nil
  | a :: l, h, hl => by
    rw [List.nodup_cons] at h
    rw [List.map_cons, List.nodup_cons]
    refine ⟨fun hm => ?_, nodup_map_toNat l h.2 (fun x hx => hl x (List.mem_cons_of_mem _ hx))⟩
    obtain ⟨y, hy, he⟩ := List.mem_map.1 hm
    have h1 := hl y (List.mem_cons_of_mem _ hy)
    have h2 := hl a (List.mem_cons_self ..)
    have : y = a := by omega
    subst this; exact h.1 hy
theorem rd_short {l : List Int} {s t : Sp} {e : Int} (hs : WkS l s) (h : Lv s s.kn e t) : t.rd.length ≤ l.length := by
  obtain ⟨K, hK, rfl⟩ := hs
  have hr : ∀ x ∈ t.rd, 0 ≤ x ∧ x < l.length := by
    intro x hx
    have := h.1.2.2 x hx
    dsimp only at this
    rw [hK, lookW_wk] at this
    by_cases hc : ((0 : Nat) : Int) ≤ x ∧ x < (0 : Nat) + (l.length : Int)
    · omega
    · rw [if_neg hc] at this; exact absurd rfl this
  have h1 := nodup_map_toNat t.rd h.1.2.1 (fun x hx => (hr x hx).1)
  have h2 := nodup_len l.length _ h1 (by intro q hq; obtain ⟨x, hx, rfl⟩ := List.mem_map.1 hq; have := hr x hx; omega)
  rw [List.length_map] at h2
  omega
theorem kn_ref {l : List Int} {s t : Sp} {e : Int} (hs : WkS l s) (h : Lv s s.kn e t) : ∀ x w, lookW t.kn x = some w → w.ref = 0 := by
  obtain ⟨K, hK, rfl⟩ := hs
  intro x w hw
  rw [h.1.1] at hw
  dsimp only at hw
  rw [hK, lookW_wk] at hw
  split at hw
  · cases h : l[(x - (0 : Nat)).toNat]? with
    | none => rw [h] at hw; cases hw
    | some v => rw [h] at hw; cases hw; rfl
  · cases hw
end Sim
namespace Go.Proofs.YtilnknokgflkjaaDoor
open Go.Vc Sim
set_option maxHeartbeats 8000000
theorem wild_spec (w0 : World) (hw : PowOk w0) (m : Int) (hm : u8P m) (va : Value) (l : List Int) (hv : InSl w0 encI 1 va l) (x : Act39) (hok : x.ok) :
    FnE PP w0 [] 6 [.int .u8 m, va, .agg (List.toArray x.cells)] [] (.bool true) [] := by
  have hrd : RdSl w0 [] encI 1 va l := hv.rd
  obtain ⟨a, cap, rfl, hmax, hmem⟩ := hv
  have hmax2 : (l.length : Int) ≤ 9223372036854775807 := by have := hmax.2; simp only [maxLen] at this; omega
  have hm' : 0 ≤ m ∧ m ≤ 255 := hm
  obtain ⟨xk, xi, xj, xv⟩ := x
  obtain ⟨hk, hi, hj, hvv⟩ := hok
  dsimp only at hk hi hj hvv
  show FnE PP w0 [] _ [.int .u8 m, _, .agg (List.toArray [.int .u8 xk, .int .i64 xi, .int .i64 xj, .int .i64 xv])] [] _ _
  refine fn_of_run en6 fn6 rfl rfl rfl ?_
  repeat (first | refine zck ?_ | refine zcl ?_ | refine zcm ?_ | refine zcn ?_)
  first | refine zcp (by kernel_rfl) ?_ | refine zcq PP_mixed (by kernel_rfl) (by kernel_rfl) ?_
  repeat' (refine zap rfl ?_; first | ((with_reducible refine zcv ?_); refine zan rfl ?_) | ((with_reducible refine zdg ?_); refine zaq (cs := [_, _, _, _]) rfl (fun nb => ?_)))
  all_goals refine zch ?_
  all_goals repeat (first | refine zck ?_ | refine zcl ?_ | refine zcm ?_ | refine zcn ?_)
  revert nb; intro b0
  refine run_share [0] rfl ?_
  by_cases hlen : (l.length : Int) > 240
  · repeat' (first | refine zck ?_ | refine zcp (by kernel_rfl) ?_ | (refine zap rfl ?_; first | ((with_reducible refine zcu ?_); refine zan rfl ?_) | ((with_reducible refine zcv ?_); refine zan rfl ?_) | ((with_reducible refine zcx ?_); first | refine zah [] (awake_spec w0 hw) rfl rfl rfl sub_nil rfl ?_ | refine zce rfl ?_) | ((with_reducible refine zda ?_); refine zbk rfl rfl (by omega) ?_)) | refine zch ?_ | refine zci rfl ?_)
    exact ret_tmp1 rfl ⟨rfl, rfl⟩
  have hK : 0 ≤ m % 24 ∧ m % 24 ≤ 23 := by omega
  generalize hKK : m % 24 = K at hK
  have hA := ar0_ok hK
  repeat (first | refine zck ?_ | refine zcl ?_ | refine zcm ?_ | refine zcn ?_)
  first | refine zcp (by kernel_rfl) ?_ | refine zcq PP_mixed (by kernel_rfl) (by kernel_rfl) ?_
  repeat' (refine zap rfl ?_; first | ((with_reducible refine zcu ?_); refine zan rfl ?_) | ((with_reducible refine zcx ?_); refine zce rfl ?_) | ((with_reducible refine zda ?_); refine zbl rfl rfl (by omega) ?_))
  all_goals refine zch ?_
  all_goals repeat (first | refine zck ?_ | refine zcl ?_ | refine zcm ?_ | refine zcn ?_)
  refine zcj rfl ?_
  repeat (first | refine zck ?_ | refine zcl ?_ | refine zcm ?_ | refine zcn ?_ | refine zco ?_)
  repeat (first | refine zck ?_ | refine zcl ?_ | refine zcm ?_ | refine zcn ?_)
  first | refine zcp (by kernel_rfl) ?_ | refine zcq PP_mixed (by kernel_rfl) (by kernel_rfl) ?_
  repeat' (refine zap rfl ?_; first | (refine zai [] (startA w0 m hm' K hKK.symm) rfl rfl rfl sub_nil ?_; rintro v Γ' ⟨vb, rfl, rfl⟩) | ((with_reducible refine zcu ?_); refine zan rfl ?_) | ((with_reducible refine zcz ?_); refine zan rfl ?_) | ((with_reducible refine zdd ?_); first | refine zae 1 rfl rfl rfl rfl rfl rfl rfl ?_ | refine zae 2 rfl rfl rfl rfl rfl rfl rfl ?_) | ((with_reducible refine zdh ?_); refine zar (fun nb => ?_)))
  all_goals refine zch ?_
  all_goals repeat (first | refine zck ?_ | refine zcl ?_ | refine zcm ?_ | refine zcn ?_)
  rename_i b1
  revert nb; intro b2
  refine run_share [0] rfl ?_
  refine run_share [0] rfl ?_
  refine run_share [0] rfl ?_
  repeat (first | refine zck ?_ | refine zcl ?_ | refine zcm ?_ | refine zcn ?_)
  first | refine zcp (by kernel_rfl) ?_ | refine zcq PP_mixed (by kernel_rfl) (by kernel_rfl) ?_
  repeat' (refine zap rfl ?_; first | refine zcb rfl ?_ | ((with_reducible refine zcu ?_); refine zan rfl ?_) | ((with_reducible refine zdd ?_); refine zae 0 rfl rfl rfl rfl rfl rfl rfl ?_) | ((with_reducible refine zdh ?_); refine zar (fun nb => ?_)))
  all_goals refine zch ?_
  all_goals repeat (first | refine zck ?_ | refine zcl ?_ | refine zcm ?_ | refine zcn ?_)
  revert nb; intro b3
  refine run_share [0] rfl ?_
  have hsm0 : ∀ s : Sp, WkS l s → Sm s 100 := by rintro s ⟨K, _, rfl⟩; show 0 + 100 ≤ 1099511627776; omega
  repeat (first | refine zck ?_ | refine zcl ?_ | refine zcm ?_ | refine zcn ?_)
  first | refine zcp (by kernel_rfl) ?_ | refine zcq PP_mixed (by kernel_rfl) (by kernel_rfl) ?_
  repeat' (refine zap rfl ?_; first | (refine zai [] (known_rd w0 _ l hrd (by omega)) rfl rfl rfl sub_nil ?_; rintro v Γ' ⟨mb, rfl, rfl⟩) | (refine zai [0] (newW w0 mb l) rfl rfl rfl sub_nil ?_; rintro v Γ' ⟨p, s, rfl, rfl, hs⟩) | (refine zai [0] (walkAll_spec w0 hw p (a0 K) hA s ((hsm0 s hs).mono (by omega))) rfl rfl rfl sub_nil ?_; rintro v Γ' ⟨a2, cap2, rfl, rfl⟩) | ((with_reducible refine zcu ?_); refine zan rfl ?_) | ((with_reducible refine zcv ?_); refine zan rfl ?_) | ((with_reducible refine zcw ?_); first | refine zaa 0 rfl rfl rfl ?_ | refine zaa 2 rfl rfl rfl ?_) | ((with_reducible refine zcz ?_); refine zan rfl ?_))
  all_goals refine zch ?_
  all_goals repeat (first | refine zck ?_ | refine zcl ?_ | refine zcm ?_ | refine zcn ?_)
  have hwl := walkAll_lv (A := a0 K) s
  generalize (a0 K).walkAll s = r at hwl
  have hw1 : r.2.1 = 0 ∨ (r.2.1 = 24 ∧ r.1.length = 0) := hwl.1.imp id fun h => ⟨h.1, by rw [h.2]; rfl⟩
  have hw2 := hwl.2
  refine run_slots [(7, .pointer (some ⟨b1, 0, none⟩)), (9, .pointer (some ⟨b3, 0, none⟩)), (5, .pointer (some ⟨b0, 0, none⟩)), (10, .slice a2 r.1.length cap2), (11, .int .i64 r.2.1)] ⟨rfl, rfl, rfl, rfl, rfl, trivial⟩ (fun junk => ?_)
  refine run_bind_eq (l' := [(7, .pointer (some ⟨b1, 0, none⟩)), (9, .pointer (some ⟨b3, 0, none⟩)), (5, .pointer (some ⟨b0, 0, none⟩)), (51, .bool false)]) (Γ' := []) ?_ (fun junk => ?_)
  · rcases hw1 with h | ⟨h, h2⟩
    · repeat' (first | refine zcp (by kernel_rfl) ?_ | (refine zap rfl ?_; first | ((with_reducible refine zct ?_); first | refine zaj rfl ?_ | refine zak rfl ?_ | refine zal rfl ?_) | ((with_reducible refine zcu ?_); refine zan rfl ?_) | ((with_reducible refine zcx ?_); refine zce rfl ?_) | ((with_reducible refine zda ?_); first | refine zbf rfl rfl (by omega) ?_ | refine zbl rfl rfl (by omega) ?_) | ((with_reducible refine zdc ?_); refine zbv rfl ?_)) | refine zch ?_)
      refine run_take [] rfl ?_
      exact cut_end ⟨rfl, ⟨rfl, rfl, rfl, rfl, trivial⟩, rfl⟩
    · repeat' (first | refine zcp (by kernel_rfl) ?_ | (refine zap rfl ?_; first | ((with_reducible refine zct ?_); refine zaj rfl ?_) | ((with_reducible refine zcu ?_); refine zan rfl ?_) | ((with_reducible refine zcx ?_); refine zce rfl ?_) | ((with_reducible refine zda ?_); first | refine zbe rfl rfl (by omega) ?_ | refine zbf rfl rfl (by omega) ?_ | refine zbl rfl rfl (by omega) ?_) | ((with_reducible refine zdc ?_); first | refine zbu rfl ?_ | refine zbv rfl ?_)) | refine zch ?_)
      refine run_take [] rfl ?_
      exact cut_end ⟨rfl, ⟨rfl, rfl, rfl, rfl, trivial⟩, rfl⟩
  repeat refine zck ?_
  refine zcj rfl ?_
  refine zcm ?_
  repeat (first | refine zck ?_ | refine zcl ?_ | refine zcm ?_ | refine zcn ?_)
  first | refine zcp (by kernel_rfl) ?_ | refine zcq PP_mixed (by kernel_rfl) (by kernel_rfl) ?_
  repeat' (refine zap rfl ?_; first | (refine zai [] (known_rd w0 _ l hrd (by omega)) rfl rfl rfl sub_nil ?_; rintro v Γ' ⟨mb2, rfl, rfl⟩) | (refine zai [0] (newW w0 mb2 l) rfl rfl rfl sub_nil ?_; rintro v Γ' ⟨p2, s2, rfl, rfl, hs2⟩) | ((with_reducible refine zcv ?_); refine zan rfl ?_) | ((with_reducible refine zcw ?_); refine zaa 0 rfl rfl rfl ?_))
  all_goals refine zch ?_
  all_goals repeat (first | refine zck ?_ | refine zcl ?_ | refine zcm ?_ | refine zcn ?_)
  repeat (first | refine zck ?_ | refine zcl ?_ | refine zcm ?_ | refine zcn ?_)
  first | refine zcp (by kernel_rfl) ?_ | refine zcq PP_mixed (by kernel_rfl) (by kernel_rfl) ?_
  repeat' (refine zap rfl ?_; first | ((with_reducible refine zcv ?_); refine zan rfl ?_))
  all_goals refine zch ?_
  all_goals repeat (first | refine zck ?_ | refine zcl ?_ | refine zcm ?_ | refine zcn ?_)
  have hkm : xk.tmod 7 = xk % 7 := tmod7 (by omega)
  repeat (first | refine zck ?_ | refine zcl ?_ | refine zcm ?_ | refine zcn ?_)
  first | refine zcp (by kernel_rfl) ?_ | refine zcq PP_mixed (by kernel_rfl) (by kernel_rfl) ?_
  repeat' (refine zap rfl ?_; first | (refine reg_rem rfl rfl (by decide) ?_; rw [hkm]) | ((with_reducible refine zcw ?_); refine zaa 4 rfl rfl rfl ?_) | ((with_reducible refine zcy ?_); refine zao rfl ?_))
  all_goals refine zch ?_
  all_goals repeat (refine zck ?_)
  have hwk := wks_wk hs2
  have hsm := hsm0 s2 hs2
  refine run_bind_eq2 (σ := { st : Int × Sp // Lv s2 s2.kn st.1 st.2 ∧ Sm st.2 0 }) (l' := fun st => [(12, spP p2), (13, .int .i64 st.1.1)]) (Γ' := fun st => [SpaceA p2 st.1.2]) ?_ ?_
  · by_cases k3 : xk % 7 = 3
    · repeat' (first | refine zck ?_ | refine zcp (by kernel_rfl) ?_ | refine zcl ?_ | refine zcn ?_ | (refine zap rfl ?_; first | (refine zai [0] (pop_spec w0 hw p2 (a0 K) hA s2 (hsm.mono (by omega))) rfl rfl rfl sub_nil ?_; rintro v Γ' ⟨rfl, rfl⟩) | ((with_reducible refine zcu ?_); refine zan rfl ?_) | ((with_reducible refine zcv ?_); refine zan rfl ?_) | ((with_reducible refine zcw ?_); refine zaa 2 rfl rfl rfl ?_) | ((with_reducible refine zcz ?_); refine zan rfl ?_) | ((with_reducible refine zda ?_); refine zbc rfl rfl (by omega) ?_)) | refine zch ?_ | refine zci rfl ?_)
      exact cut_end ⟨rfl, ⟨((a0 K).pop s2 |>.2), pop_lv hwk, sm_pop (hsm.mono (by omega))⟩, ⟨rfl, rfl, trivial⟩, rfl⟩
    · by_cases k4 : xk % 7 = 4
      · repeat' (first | refine zck ?_ | refine zcp (by kernel_rfl) ?_ | refine zcl ?_ | refine zcn ?_ | (refine zap rfl ?_; first | ((with_reducible refine zcu ?_); refine zan rfl ?_) | ((with_reducible refine zcv ?_); refine zan rfl ?_) | ((with_reducible refine zcw ?_); first | refine zaa 2 rfl rfl rfl ?_ | refine zaa 4 rfl rfl rfl ?_) | ((with_reducible refine zcx ?_); refine zah [0] (aget_spec w0 hw p2 (a0 K) hA s2 xi (hsm.mono (by omega))) rfl rfl rfl sub_nil rfl ?_) | ((with_reducible refine zcy ?_); refine zao rfl ?_) | ((with_reducible refine zcz ?_); refine zan rfl ?_) | ((with_reducible refine zda ?_); first | refine zbc rfl rfl (by omega) ?_ | refine zbd rfl rfl (by omega) ?_)) | refine zch ?_ | refine zci rfl ?_ | refine zcj rfl ?_)
        exact cut_end ⟨rfl, ⟨((a0 K).get s2 xi |>.2), get_lv hwk xi, sm_aget (hsm.mono (by omega))⟩, ⟨rfl, rfl, trivial⟩, rfl⟩
      · by_cases k5 : xk % 7 = 5
        · repeat' (first | refine zck ?_ | refine zcp (by kernel_rfl) ?_ | refine zcl ?_ | refine zcn ?_ | (refine zap rfl ?_; first | ((with_reducible refine zcu ?_); refine zan rfl ?_) | ((with_reducible refine zcv ?_); refine zan rfl ?_) | ((with_reducible refine zcw ?_); first | refine zaa 2 rfl rfl rfl ?_ | refine zaa 4 rfl rfl rfl ?_) | ((with_reducible refine zcx ?_); refine zah [0] (aset_spec w0 hw p2 (a0 K) hA s2 xi xv (hsm.mono (by omega))) rfl rfl rfl sub_nil rfl ?_) | ((with_reducible refine zcy ?_); refine zao rfl ?_) | ((with_reducible refine zcz ?_); refine zan rfl ?_) | ((with_reducible refine zda ?_); first | refine zbc rfl rfl (by omega) ?_ | refine zbd rfl rfl (by omega) ?_)) | refine zch ?_ | refine zci rfl ?_ | refine zcj rfl ?_)
          exact cut_end ⟨rfl, ⟨((a0 K).set s2 xi xv |>.2), set_lv hwk xi xv, sm_aset (hsm.mono (by omega))⟩, ⟨rfl, rfl, trivial⟩, rfl⟩
        · by_cases k6 : xk % 7 = 6
          · repeat' (first | refine zck ?_ | refine zcp (by kernel_rfl) ?_ | refine zcl ?_ | refine zcn ?_ | (refine zap rfl ?_; first | ((with_reducible refine zcu ?_); refine zan rfl ?_) | ((with_reducible refine zcv ?_); refine zan rfl ?_) | ((with_reducible refine zcw ?_); first | refine zaa 2 rfl rfl rfl ?_ | refine zaa 4 rfl rfl rfl ?_) | ((with_reducible refine zcx ?_); refine zah [0] (aswap_spec w0 hw p2 (a0 K) hA s2 xi xj (hsm.mono (by omega))) rfl rfl rfl sub_nil rfl ?_) | ((with_reducible refine zcy ?_); refine zao rfl ?_) | ((with_reducible refine zda ?_); first | refine zbc rfl rfl (by omega) ?_ | refine zbd rfl rfl (by omega) ?_)) | refine zch ?_ | refine zci rfl ?_ | refine zcj rfl ?_)
            exact cut_end ⟨rfl, ⟨((a0 K).swap s2 xi xj), swap_lv hwk xi xj, sm_aswap (hsm.mono (by omega))⟩, ⟨rfl, rfl, trivial⟩, rfl⟩
          · repeat' (first | refine zck ?_ | refine zcp (by kernel_rfl) ?_ | refine zcl ?_ | refine zcn ?_ | (refine zap rfl ?_; first | (refine zai [0] (push_spec w0 hw p2 (a0 K) hA s2 xv (hsm.mono (by omega))) rfl rfl rfl sub_nil ?_; rintro v Γ' ⟨rfl, rfl⟩) | ((with_reducible refine zcu ?_); refine zan rfl ?_) | ((with_reducible refine zcv ?_); refine zan rfl ?_) | ((with_reducible refine zcw ?_); first | refine zaa 2 rfl rfl rfl ?_ | refine zaa 4 rfl rfl rfl ?_) | ((with_reducible refine zcy ?_); refine zao rfl ?_) | ((with_reducible refine zcz ?_); refine zan rfl ?_) | ((with_reducible refine zda ?_); refine zbd rfl rfl (by omega) ?_)) | refine zch ?_ | refine zcj rfl ?_)
            exact cut_end ⟨rfl, ⟨((a0 K).push s2 xv |>.2), push_lv hwk xv, sm_push (hsm.mono (by omega))⟩, ⟨rfl, rfl, trivial⟩, rfl⟩
  rintro ⟨⟨f, t⟩, hlv, hst⟩ junk
  dsimp only at hlv hst ⊢
  have hrl := rd_short hs2 hlv
  have hE := ents_spec w0 p2 t (by omega) (by simpa [Sm] using hst) (kn_ref hs2 hlv)
  have hes : ∀ (e : En), e ∈ (Sp.entries t).1 → f ≠ 0 → e.new = e.old.val := by
    intro e he hf
    unfold Sp.entries at he
    split at he
    · cases he
    · split at he
      · cases he
      · split at he
        · cases he
        · rename_i hne _ _
          obtain ⟨K2, _, rfl⟩ := hs2
          exact entries_same ((hlv.2 hf).resolve_left hne) e he
  repeat refine zck ?_
  repeat (first | refine zck ?_ | refine zcl ?_ | refine zcm ?_ | refine zcn ?_)
  first | refine zcp (by kernel_rfl) ?_ | refine zcq PP_mixed (by kernel_rfl) (by kernel_rfl) ?_
  repeat' (refine zap rfl ?_; first | (refine zai [0] hE rfl rfl rfl sub_nil ?_; rintro v Γ' ⟨a3, cap3, rfl, rfl⟩) | ((with_reducible refine zcu ?_); refine zan rfl ?_) | ((with_reducible refine zcv ?_); refine zan rfl ?_) | ((with_reducible refine zcz ?_); refine zan rfl ?_))
  all_goals refine zch ?_
  all_goals repeat (first | refine zck ?_ | refine zcl ?_ | refine zcm ?_ | refine zcn ?_)
  have hel : (Sp.entries t).1.length ≤ t.rd.length := by
    have h0 : (esOf t).length = t.rd.length := by rw [esOf, List.length_map, List.length_mergeSort]
    unfold Sp.entries
    split
    · exact Nat.zero_le _
    · split
      · exact Nat.zero_le _
      · split
        · exact Nat.zero_le _
        · exact Nat.le_of_eq h0
  generalize (Sp.entries t).1 = es at hes hel
  generalize (Sp.entries t).2 = g
  repeat (first | refine zck ?_ | refine zcl ?_ | refine zcm ?_ | refine zcn ?_)
  first | refine zcp (by kernel_rfl) ?_ | refine zcq PP_mixed (by kernel_rfl) (by kernel_rfl) ?_
  repeat' (refine zap rfl ?_; first | ((with_reducible refine zcv ?_); refine zan rfl ?_))
  all_goals refine zch ?_
  all_goals repeat (refine zck ?_)
  refine zcl ?_
  refine run_loop (S := Nat) (fun i => [(13, .int .i64 f), (14, .slice a3 es.length cap3), (15, .int .i64 g), (16, .int .i64 i)])
    (fun i Γ => Γ = [SpaceA p2 t, EnA a3 cap3 es] ∧ i ≤ es.length) (fun i => es.length - i) 0 ⟨rfl, rfl, rfl, rfl, trivial⟩ ⟨rfl, Nat.zero_le _⟩ ?_
  rintro i Γ junk ⟨rfl, hi2⟩
  by_cases c1 : i < es.length
  · by_cases c2 : g = 0
    · by_cases c3 : f = 0
      · repeat' (first | refine zck ?_ | refine zcp (by kernel_rfl) ?_ | (refine zap rfl ?_; first | ((with_reducible refine zct ?_); refine zaj rfl ?_) | ((with_reducible refine zcu ?_); refine zan rfl ?_) | ((with_reducible refine zcx ?_); refine zce rfl ?_) | ((with_reducible refine zda ?_); first | refine zbc rfl rfl (by omega) ?_ | refine zbf rfl rfl (by omega) ?_ | refine zbg rfl rfl (by omega) ?_) | ((with_reducible refine zdc ?_); refine zbu rfl ?_)) | refine zch ?_ | refine zcj rfl ?_)
        refine cut_exit rfl rfl ?_
        repeat' (first | refine zck ?_ | refine zcp (by kernel_rfl) ?_ | (refine zap rfl ?_; first | ((with_reducible refine zcv ?_); refine zan rfl ?_) | ((with_reducible refine zcx ?_); refine zah [] (awake_spec w0 hw) rfl rfl rfl sub_nil rfl ?_)) | refine zch ?_)
        refine run_take [] rfl ?_
        exact ret_tmp1 rfl ⟨rfl, rfl⟩
      · obtain ⟨e, he⟩ : ∃ e, es[i]? = some e := ⟨_, List.getElem?_eq_getElem c1⟩
        have hne := hes e (List.mem_of_getElem? he) c3
        have hr4 : ∀ o, o = i * 6 + 4 → rd false 1 (flatE es) o = some (.int .i64 e.new) := fun o ho => rd_one (c := (flatE es).toArray) (o := i * 6 + 4) (by simpa using flatE_get es i e 4 _ he rfl) o ho
        have hr1 : ∀ o, o = i * 6 + 1 → rd false 1 (flatE es) o = some (.int .i64 e.old.val) := fun o ho => rd_one (c := (flatE es).toArray) (o := i * 6 + 1) (by simpa using flatE_get es i e 1 _ he rfl) o ho
        refine run_sl_cases 1 rfl (fun _ h _ _ => absurd h (by omega)) ?_
        intro bb q1 q2 q3
        subst q1
        repeat' (first | refine zck ?_ | refine zcp (by kernel_rfl) ?_ | refine run_drawR PP_mixed (by kernel_rfl) (by kernel_rfl) ?_ | refine zcm ?_ | refine zcl ?_ | refine zcn ?_ | (refine zap rfl ?_; first | refine zag 1 rfl rfl (hr4 _ (by omega)) (by intro h; cases h) ?_ | refine zag 1 rfl rfl (hr1 _ (by omega)) (by intro h; cases h) ?_ | ((with_reducible refine zct ?_); refine zaj rfl ?_) | ((with_reducible refine zcu ?_); refine zan rfl ?_) | ((with_reducible refine zcv ?_); refine zan rfl ?_) | ((with_reducible refine zcx ?_); refine zce rfl ?_) | ((with_reducible refine zcy ?_); refine zao rfl ?_) | ((with_reducible refine zda ?_); first | refine zbc rfl rfl (by omega) ?_ | refine zbe rfl rfl (by omega) ?_ | refine zbf rfl rfl (by omega) ?_ | refine zbg rfl rfl (by omega) ?_ | refine zau rfl rfl (by omega) ?_) | ((with_reducible refine zdc ?_); refine zbu rfl ?_) | ((with_reducible refine zdf ?_); refine zas rfl rfl (by omega) ?_)) | refine zch ?_ | refine zci rfl ?_ | refine zcj rfl ?_)
        exact cut_end ⟨rfl, i + 1, ⟨rfl, rfl, rfl, int_eq (by omega), trivial⟩, ⟨rfl, by omega⟩, by omega⟩
    · repeat' (first | refine zck ?_ | refine zcp (by kernel_rfl) ?_ | (refine zap rfl ?_; first | ((with_reducible refine zct ?_); first | refine zaj rfl ?_ | refine zak rfl ?_) | ((with_reducible refine zcu ?_); refine zan rfl ?_) | ((with_reducible refine zcx ?_); refine zce rfl ?_) | ((with_reducible refine zda ?_); first | refine zbd rfl rfl (by omega) ?_ | refine zbg rfl rfl (by omega) ?_) | ((with_reducible refine zdc ?_); first | refine zbu rfl ?_ | refine zbv rfl ?_)) | refine zch ?_ | refine zcj rfl ?_)
      refine cut_exit rfl rfl ?_
      repeat' (first | refine zck ?_ | refine zcp (by kernel_rfl) ?_ | (refine zap rfl ?_; first | ((with_reducible refine zcv ?_); refine zan rfl ?_) | ((with_reducible refine zcx ?_); refine zah [] (awake_spec w0 hw) rfl rfl rfl sub_nil rfl ?_)) | refine zch ?_)
      refine run_take [] rfl ?_
      exact ret_tmp1 rfl ⟨rfl, rfl⟩
  · repeat' (first | refine zck ?_ | refine zcp (by kernel_rfl) ?_ | (refine zap rfl ?_; first | ((with_reducible refine zct ?_); refine zak rfl ?_) | ((with_reducible refine zcu ?_); refine zan rfl ?_) | ((with_reducible refine zcx ?_); refine zce rfl ?_) | ((with_reducible refine zda ?_); refine zbh rfl rfl (by omega) ?_) | ((with_reducible refine zdc ?_); refine zbv rfl ?_)) | refine zch ?_ | refine zcj rfl ?_)
    refine cut_exit rfl rfl ?_
    repeat' (first | refine zck ?_ | refine zcp (by kernel_rfl) ?_ | (refine zap rfl ?_; first | ((with_reducible refine zcv ?_); refine zan rfl ?_) | ((with_reducible refine zcx ?_); refine zah [] (awake_spec w0 hw) rfl rfl rfl sub_nil rfl ?_)) | refine zch ?_)
    refine run_take [] rfl ?_
    exact ret_tmp1 rfl ⟨rfl, rfl⟩
end Go.Proofs.YtilnknokgflkjaaDoor

