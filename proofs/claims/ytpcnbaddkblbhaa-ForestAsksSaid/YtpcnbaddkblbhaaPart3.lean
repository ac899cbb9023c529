import Derived.Test.YtpcnbaddkblbhaaPart1
import Derived.Test.YtpcnbaddkblbhaaPart2
/- Lemmas and walks for the claims of this seat (own work): Sp1 Sp2 Sp3 Pg0 Pg1 Pl0 Pl1 Po0 Po1 Fo0 Fl0. -/
/- The walks of package space: each function against the plain model. -/
namespace Go.Proofs.Ytpcnbaddkblbhaa
open Go.Vc Sim

def SpaceParts (p : Nat) (s : Sp) (i : Nat × Nat × Option Addr × Nat) : List Asn :=
  [pt p (.cells #[.map (some i.1), .map (some i.2.1), .slice i.2.2.1 s.puts.length i.2.2.2, .int .i64 s.need, .bool s.ended] 101 (0, 0)),
   pt i.1 (mapI (knM s.kn)), pt i.2.1 (mapI (rdM s.rd)), SlA 104 2 i.2.2.1 s.puts.length i.2.2.2 (flat s.puts)]
def SpaceA (p : Nat) (s : Sp) : Asn := fun h => ∃ i, Stars (SpaceParts p s i) h
abbrev spP (p : Nat) : Value := .pointer (some ⟨p, 0, none⟩)

theorem ended_spec (w0 : World) (p : Nat) (s : Sp) : FnE PP w0 [] 32 [spP p] [SpaceA p s] (.bool s.ended) [SpaceA p s] := by
  refine fn_of_run en32 fn32 rfl rfl rfl ?_
  refine run_open [0] (SpaceParts p s) rfl (fun _ h => h) ?_
  rintro ⟨bk, br, a, cap⟩
  repeat' (first | refine zck ?_ | refine zcp (by kernel_rfl) ?_ | (refine zap rfl ?_; first | ((with_reducible refine zct ?_); refine zaj rfl ?_) | ((with_reducible refine zcu ?_); refine zan rfl ?_) | ((with_reducible refine zcv ?_); refine zan rfl ?_) | ((with_reducible refine zcw ?_); refine zab 0 rfl rfl rfl ?_) | ((with_reducible refine zcy ?_); refine zao rfl ?_) | ((with_reducible refine zda ?_); refine zaz rfl rfl ?_) | ((with_reducible refine zdc ?_); refine zbv rfl ?_) | ((with_reducible refine zde ?_); refine zan rfl ?_)) | refine zch ?_)
  refine run_close1 (A := SpaceA p s) [0, 0, 0, 0] rfl (fun _ h => ⟨(_, _, _, _), h⟩) ?_
  refine ret_tmp1 rfl ⟨rfl, rfl⟩

theorem mark_spec (w0 : World) (p : Nat) (s : Sp) : FnE PP w0 [] 45 [spP p] [SpaceA p s] (.int .i64 s.puts.length) [SpaceA p s] := by
  refine fn_of_run en45 fn45 rfl rfl rfl ?_
  refine run_open [0] (SpaceParts p s) rfl (fun _ h => h) ?_
  rintro ⟨bk, br, a, cap⟩
  repeat' (first | refine zck ?_ | refine zcp (by kernel_rfl) ?_ | refine zcm ?_ | (refine zap rfl ?_; first | ((with_reducible refine zcu ?_); refine zan rfl ?_) | ((with_reducible refine zcv ?_); refine zan rfl ?_) | ((with_reducible refine zcw ?_); refine zab 0 rfl rfl rfl ?_) | ((with_reducible refine zcx ?_); refine zce rfl ?_) | ((with_reducible refine zcy ?_); refine zao rfl ?_) | ((with_reducible refine zda ?_); refine zaz rfl rfl ?_) | ((with_reducible refine zde ?_); refine zan rfl ?_)) | refine zch ?_ | refine zcj rfl ?_)
  refine run_close1 (A := SpaceA p s) [0, 0, 0, 0] rfl (fun _ h => ⟨(_, _, _, _), h⟩) ?_
  refine ret_tmp1 rfl ⟨rfl, rfl⟩

theorem reads_spec (w0 : World) (p : Nat) (s : Sp) (a : Int) : FnE PP w0 [] 65 [spP p, .int .i64 a] [SpaceA p s] (.bool (s.reads a).1) [SpaceA p (s.reads a).2] := by
  refine fn_of_run en65 fn65 rfl rfl rfl ?_
  repeat' (first | refine zck ?_ | refine zcp (by kernel_rfl) ?_ | (refine zap rfl ?_; first | ((with_reducible refine zcu ?_); refine zan rfl ?_) | ((with_reducible refine zcv ?_); refine zan rfl ?_) | ((with_reducible refine zcx ?_); refine zah [0] (ended_spec w0 _ _) rfl rfl rfl sub_nil rfl ?_)) | refine zch ?_)
  refine run_condV rfl (fun hE => ?_) (fun hE => ?_)
  · repeat' (first | refine zck ?_ | refine zcp (by kernel_rfl) ?_ | (refine zap rfl ?_; first | ((with_reducible refine zcv ?_); refine zan rfl ?_)) | refine zch ?_)
    refine ret_tmp1 rfl ?_
    have e : s.reads a = (false, s) := by simp [Sp.reads, hE]
    rw [e]; exact ⟨rfl, rfl⟩
  · refine run_open [0] (SpaceParts p s) rfl (fun _ h => h) ?_
    rintro ⟨bk, br, sa, cap⟩
    cases hk : lookW s.kn a with
    | none =>
      have hl : Vc.look (knM s.kn) a = none := by rw [look_knM, hk]; rfl
      repeat' (first | refine zck ?_ | refine zcp (by kernel_rfl) ?_ | refine zcm ?_ | (refine zap rfl ?_; first | refine reg_lookupOk 1 rfl rfl rfl hl ?_ | ((with_reducible refine zcu ?_); refine zan rfl ?_) | ((with_reducible refine zcv ?_); refine zan rfl ?_) | ((with_reducible refine zcw ?_); refine zab 0 rfl rfl rfl ?_) | ((with_reducible refine zcy ?_); refine zao rfl ?_) | ((with_reducible refine zcz ?_); refine zan rfl ?_) | ((with_reducible refine zdb ?_); refine zbx rfl ?_) | ((with_reducible refine zdd ?_); first | refine zae 0 rfl rfl rfl rfl rfl rfl rfl ?_ | refine zae 4 rfl rfl rfl rfl rfl rfl rfl ?_) | ((with_reducible refine zde ?_); refine zan rfl ?_) | ((with_reducible refine zdh ?_); refine zar (fun nb => ?_))) | refine zch ?_ | refine zci rfl ?_)
      have e : s.reads a = (false, { s with ended := true, need := a }) := by simp [Sp.reads, hE, hk]
      rw [e]
      refine run_close1 (A := SpaceA p { s with ended := true, need := a }) [0, 0, 0, 0] rfl (fun _ h => ⟨(_, _, _, _), h⟩) ?_
      refine ret_tmp1 rfl ⟨rfl, rfl⟩
    | some wd =>
      have hl : Vc.look (knM s.kn) a = some (wordV wd) := by rw [look_knM, hk]; rfl
      repeat' (first | refine zck ?_ | refine zcp (by kernel_rfl) ?_ | refine zcm ?_ | (refine zap rfl ?_; first | refine reg_lookupOk 1 rfl rfl rfl hl ?_ | refine reg_mapUpdate 2 rfl rfl rfl rfl rfl ?_ | ((with_reducible refine zcu ?_); refine zan rfl ?_) | ((with_reducible refine zcv ?_); refine zan rfl ?_) | ((with_reducible refine zcw ?_); refine zab 0 rfl rfl rfl ?_) | ((with_reducible refine zcy ?_); refine zao rfl ?_) | ((with_reducible refine zcz ?_); refine zan rfl ?_) | ((with_reducible refine zdb ?_); refine zbx rfl ?_) | ((with_reducible refine zdd ?_); refine zae 4 rfl rfl rfl rfl rfl rfl rfl ?_) | ((with_reducible refine zde ?_); refine zan rfl ?_) | ((with_reducible refine zdh ?_); refine zar (fun nb => ?_))) | refine zch ?_ | refine zcj rfl ?_)
      have e : s.reads a = (true, { s with rd := insI s.rd a }) := by simp [Sp.reads, hE, hk]
      rw [e]
      refine run_close1 (A := SpaceA p { s with rd := insI s.rd a }) [0, 0, 0, 0] rfl (fun _ h => ⟨(bk, br, sa, cap), by unfold SpaceParts; rw [← ins_rdM]; exact h⟩) ?_
      refine ret_tmp1 rfl ⟨rfl, rfl⟩

end Go.Proofs.Ytpcnbaddkblbhaa

namespace Go.Proofs.Ytpcnbaddkblbhaa
open Go.Vc Sim

theorem last_spec (w0 : World) (p : Nat) (s : Sp) (x : Int) (hlen : s.puts.length ≤ 1099511627776) : FnE PP w0 [] 73 [spP p, .int .i64 x] [SpaceA p s] (.int .i64 (lastI s.puts x)) [SpaceA p s] := by
  refine fn_of_run en73 fn73 rfl rfl rfl ?_
  refine run_open [0] (SpaceParts p s) rfl (fun _ h => h) ?_
  rintro ⟨bk, br, sa, cap⟩
  repeat' (first | refine zck ?_ | refine zcp (by kernel_rfl) ?_ | refine zcl ?_ | (refine zap rfl ?_; first | ((with_reducible refine zcu ?_); refine zan rfl ?_) | ((with_reducible refine zcv ?_); refine zan rfl ?_) | ((with_reducible refine zcw ?_); refine zab 0 rfl rfl rfl ?_) | ((with_reducible refine zcx ?_); refine zce rfl ?_) | ((with_reducible refine zcy ?_); refine zao rfl ?_) | ((with_reducible refine zda ?_); refine zav rfl rfl (by omega) ?_) | ((with_reducible refine zde ?_); refine zan rfl ?_)) | refine zch ?_)
  refine run_loop (S := Nat) (fun k => [(0, spP p), (1, .int .i64 x), (5, .int .i64 ((k : Int) - 1))])
    (fun k Γ => Γ = SpaceParts p s (bk, br, sa, cap) ∧ k ≤ s.puts.length ∧ ∀ j, k ≤ j → j < s.puts.length → ∀ p, s.puts[j]? = some p → p.1 ≠ x)
    (fun k => k) s.puts.length ⟨rfl, rfl, rfl, trivial⟩ ⟨rfl, Nat.le_refl _, fun j h1 h2 => absurd h2 (by omega)⟩ ?_
  rintro k Γ junk ⟨rfl, hk, hno⟩
  repeat' (first | refine zck ?_ | refine zcp (by kernel_rfl) ?_ | (refine zap rfl ?_; first | ((with_reducible refine zcu ?_); refine zan rfl ?_) | ((with_reducible refine zda ?_); refine zbt rfl rfl ?_)) | refine zch ?_)
  refine run_cond rfl (fun hc => ?_) (fun hc => ?_)
  · have hc : (0 : Int) ≤ (k : Int) - 1 := by simpa using hc
    refine run_sl_cases 3 rfl ?_ ?_
    · intro h1 h2 h3 h4; omega
    · intro nb h1 h2 h3
      subst h1
      obtain ⟨k, rfl⟩ : ∃ m, k = m + 1 := ⟨k - 1, by omega⟩
      have hlt : k < s.puts.length := by omega
      obtain ⟨q, hq⟩ : ∃ q, s.puts[k]? = some q := ⟨_, List.getElem?_eq_getElem hlt⟩
      have hr : ∀ o, o = k * 2 → rd false 1 (flat s.puts) o = some (.int .i64 q.1) := by
        intro o ho; subst ho; exact (flat_get _ _ _ hq).1
      repeat' (first | refine zck ?_ | refine zcp (by kernel_rfl) ?_ | refine zcm ?_ | refine zcl ?_ | (refine zap rfl ?_; first | refine zag 3 rfl rfl (hr _ (by omega)) (by intro h; cases h) ?_ | ((with_reducible refine zcu ?_); refine zan rfl ?_) | ((with_reducible refine zcw ?_); refine zab 0 rfl rfl rfl ?_) | ((with_reducible refine zcy ?_); refine zao rfl ?_) | ((with_reducible refine zda ?_); refine zbo rfl rfl ?_) | ((with_reducible refine zde ?_); refine zan rfl ?_) | ((with_reducible refine zdf ?_); refine zas rfl rfl (by omega) ?_)) | refine zch ?_)
      refine run_condV rfl (fun hE => ?_) (fun hE => ?_)
      · have hE : q.1 = x := by simpa using hE
        repeat' (first | refine zck ?_ | refine zcp (by kernel_rfl) ?_ | (refine zap rfl ?_; first | ((with_reducible refine zcu ?_); refine zan rfl ?_) | ((with_reducible refine zcv ?_); refine zan rfl ?_)) | refine zch ?_)
        refine run_close1 (A := SpaceA p s) [0, 0, 0, 0] rfl (fun _ h => ⟨(_, _, _, _), h⟩) ?_
        refine qret1 (fun _ _ h => h) rfl ⟨int_eq ?_, rfl⟩
        rw [lastI_spec s.puts x (k + 1) hk hno]
        simp only [lastI.go, hq, Option.map_some, hE, if_true]
        omega
      · have hE : q.1 ≠ x := by simpa using hE
        repeat' (first | refine zcp (by kernel_rfl) ?_ | refine zcm ?_ | refine zcn ?_ | (refine zap rfl ?_; first | ((with_reducible refine zcu ?_); refine zan rfl ?_) | ((with_reducible refine zcv ?_); refine zan rfl ?_) | ((with_reducible refine zda ?_); refine zav rfl rfl (by omega) ?_)) | refine zch ?_)
        refine cut_end ⟨rfl, k, ⟨rfl, rfl, int_eq (by omega), trivial⟩, ⟨rfl, by omega, ?_⟩, by omega⟩
        intro j h1 h2 p hp
        by_cases hj : j = k
        · subst hj; rw [hq] at hp; cases hp; exact hE
        · exact hno j (by omega) h2 p hp
  · have hc : ¬ (0 : Int) ≤ (k : Int) - 1 := by simpa using hc
    have hk0 : k = 0 := by omega
    subst hk0
    repeat' (first | refine zck ?_ | (refine zap rfl ?_; first | ((with_reducible refine zcu ?_); refine zan rfl ?_)) | refine zch ?_)
    refine cut_exit rfl rfl ?_
    repeat' (first | refine zck ?_ | refine zcp (by kernel_rfl) ?_ | (refine zap rfl ?_; first | ((with_reducible refine zcv ?_); refine zan rfl ?_)) | refine zch ?_)
    refine run_close1 (A := SpaceA p s) [0, 0, 0, 0] rfl (fun _ h => ⟨(_, _, _, _), h⟩) ?_
    refine ret_tmp1 rfl ⟨int_eq ?_, rfl⟩
    rw [lastI_spec s.puts x 0 hk hno]; rfl
end Go.Proofs.Ytpcnbaddkblbhaa

namespace Go.Proofs.Ytpcnbaddkblbhaa
open Go.Vc Sim

theorem value_spec (w0 : World) (p : Nat) (s : Sp) (x : Int) (hlen : s.puts.length ≤ 1099511627776) : FnE PP w0 [] 63 [spP p, .int .i64 x] [SpaceA p s] (.tuple #[.int .i64 (s.value x).1, .bool (s.value x).2]) [SpaceA p s] := by
  refine fn_of_run en63 fn63 rfl rfl rfl ?_
  rcases lastI_lastV s.puts x with ⟨h1, h2⟩ | ⟨j, q, h1, hq, h2, h3⟩
  · repeat' (first | refine zck ?_ | refine zcp (by kernel_rfl) ?_ | (refine zap rfl ?_; first | ((with_reducible refine zcu ?_); refine zan rfl ?_) | ((with_reducible refine zcv ?_); refine zan rfl ?_) | ((with_reducible refine zcx ?_); refine zah [0] (last_spec w0 p s x hlen) rfl rfl rfl sub_nil rfl ?_) | ((with_reducible refine zda ?_); refine zbt rfl rfl ?_)) | refine zch ?_)
    refine zcj (by rw [h2]; rfl) ?_
    refine run_open [0] (SpaceParts p s) rfl (fun _ h => h) ?_
    rintro ⟨bk, br, sa, cap⟩
    cases hk : lookW s.kn x with
    | none =>
      have hl : Vc.look (knM s.kn) x = none := by rw [look_knM, hk]; rfl
      repeat' (first | refine zck ?_ | refine zcp (by kernel_rfl) ?_ | refine zcm ?_ | (refine zap rfl ?_; first | refine reg_lookup1 1 rfl rfl rfl hl ?_ | refine reg_fieldV rfl rfl ?_ | ((with_reducible refine zcu ?_); refine zan rfl ?_) | ((with_reducible refine zcv ?_); refine zan rfl ?_) | ((with_reducible refine zcw ?_); refine zab 0 rfl rfl rfl ?_) | ((with_reducible refine zcy ?_); refine zao rfl ?_) | ((with_reducible refine zde ?_); refine zan rfl ?_)) | refine zch ?_)
      have e : s.value x = (0, false) := by simp [Sp.value, h1, hk]
      rw [e]
      refine run_close1 (A := SpaceA p s) [0, 0, 0, 0] rfl (fun _ h => ⟨(_, _, _, _), h⟩) ?_
      refine ret_tmp2 rfl ⟨rfl, rfl⟩
    | some wd =>
      have hl : Vc.look (knM s.kn) x = some (wordV wd) := by rw [look_knM, hk]; rfl
      repeat' (first | refine zck ?_ | refine zcp (by kernel_rfl) ?_ | refine zcm ?_ | (refine zap rfl ?_; first | refine reg_lookup1 1 rfl rfl rfl hl ?_ | refine reg_fieldV rfl rfl ?_ | ((with_reducible refine zcu ?_); refine zan rfl ?_) | ((with_reducible refine zcv ?_); refine zan rfl ?_) | ((with_reducible refine zcw ?_); refine zab 0 rfl rfl rfl ?_) | ((with_reducible refine zcy ?_); refine zao rfl ?_) | ((with_reducible refine zde ?_); refine zan rfl ?_)) | refine zch ?_)
      have e : s.value x = (wd.val, false) := by simp [Sp.value, h1, hk]
      rw [e]
      refine run_close1 (A := SpaceA p s) [0, 0, 0, 0] rfl (fun _ h => ⟨(_, _, _, _), h⟩) ?_
      refine ret_tmp2 rfl ⟨rfl, rfl⟩
  · have hr : ∀ o, o = j * 2 + 1 → rd false 1 (flat s.puts) o = some (.int .i64 q.2) := by
      intro o ho; subst ho; exact (flat_get _ _ _ hq).2
    repeat' (first | refine zck ?_ | refine zcp (by kernel_rfl) ?_ | (refine zap rfl ?_; first | ((with_reducible refine zcu ?_); refine zan rfl ?_) | ((with_reducible refine zcv ?_); refine zan rfl ?_) | ((with_reducible refine zcx ?_); refine zah [0] (last_spec w0 p s x hlen) rfl rfl rfl sub_nil rfl ?_) | ((with_reducible refine zda ?_); refine zbt rfl rfl ?_)) | refine zch ?_)
    refine zci (by rw [h3]; exact bool_eq (by simp)) ?_
    refine run_open [0] (SpaceParts p s) rfl (fun _ h => h) ?_
    rintro ⟨bk, br, sa, cap⟩
    refine run_sl_cases 3 rfl (fun _ h => absurd h (by omega)) ?_
    intro nb e1 e2 e3
    subst e1
    repeat' (first | refine zck ?_ | refine zcp (by kernel_rfl) ?_ | (refine zap rfl ?_; first | refine zag 3 rfl rfl (hr _ (by omega)) (by intro h; cases h) ?_ | ((with_reducible refine zcu ?_); refine zan rfl ?_) | ((with_reducible refine zcv ?_); refine zan rfl ?_) | ((with_reducible refine zcw ?_); refine zab 0 rfl rfl rfl ?_) | ((with_reducible refine zcy ?_); refine zao rfl ?_) | ((with_reducible refine zde ?_); refine zan rfl ?_) | ((with_reducible refine zdf ?_); refine zas rfl rfl (by omega) ?_)) | refine zch ?_)
    have e : s.value x = (q.2, true) := by simp [Sp.value, h2]
    rw [e]
    refine run_close1 (A := SpaceA p s) [0, 0, 0, 0] rfl (fun _ h => ⟨(_, _, _, _), h⟩) ?_
    refine ret_tmp2 rfl ⟨rfl, rfl⟩

theorem reads_puts (s : Sp) (x : Int) : (s.reads x).2.puts = s.puts := by unfold Sp.reads; split; rfl; split <;> rfl

theorem get_spec (w0 : World) (p : Nat) (s : Sp) (x : Int) (hlen : s.puts.length ≤ 1099511627776) : FnE PP w0 [] 41 [spP p, .int .i64 x] [SpaceA p s] (.int .i64 (s.get x).1) [SpaceA p (s.get x).2] := by
  refine fn_of_run en41 fn41 rfl rfl rfl ?_
  repeat' (first | refine zck ?_ | refine zcp (by kernel_rfl) ?_ | (refine zap rfl ?_; first | ((with_reducible refine zcu ?_); refine zan rfl ?_) | ((with_reducible refine zcv ?_); refine zan rfl ?_) | ((with_reducible refine zcx ?_); refine zah [0] (reads_spec w0 p s x) rfl rfl rfl sub_nil rfl ?_) | ((with_reducible refine zdb ?_); refine zbx rfl ?_)) | refine zch ?_)
  refine run_condV rfl (fun hE => ?_) (fun hE => ?_)
  · have hE : (s.reads x).1 = false := by simpa using hE
    repeat' (first | refine zck ?_ | refine zcp (by kernel_rfl) ?_ | (refine zap rfl ?_; first | ((with_reducible refine zcv ?_); refine zan rfl ?_)) | refine zch ?_)
    have e : s.get x = (0, (s.reads x).2) := by simp [Sp.get, hE]
    rw [e]
    refine ret_tmp1 rfl ⟨rfl, rfl⟩
  · have hE : (s.reads x).1 = true := by simpa using hE
    repeat' (first | refine zck ?_ | refine zcp (by kernel_rfl) ?_ | refine zcm ?_ | (refine zap rfl ?_; first | ((with_reducible refine zcu ?_); refine zan rfl ?_) | ((with_reducible refine zcv ?_); refine zan rfl ?_) | ((with_reducible refine zcx ?_); refine zah [0] (value_spec w0 p (s.reads x).2 x (by rw [reads_puts]; exact hlen)) rfl rfl rfl sub_nil rfl ?_) | ((with_reducible refine zcz ?_); refine zan rfl ?_)) | refine zch ?_)
    have e : s.get x = (((s.reads x).2.value x).1, (s.reads x).2) := by simp [Sp.get, hE]
    rw [e]
    refine ret_tmp1 rfl ⟨rfl, rfl⟩

theorem put_spec (w0 : World) (p : Nat) (s : Sp) (x v : Int) (hlen : s.puts.length ≤ 1099511627776) : FnE PP w0 [] 49 [spP p, .int .i64 x, .int .i64 v] [SpaceA p s] (.tuple #[]) [SpaceA p (s.put x v)] := by
  refine fn_of_run en49 fn49 rfl rfl rfl ?_
  repeat' (first | refine zck ?_ | refine zcp (by kernel_rfl) ?_ | (refine zap rfl ?_; first | ((with_reducible refine zcu ?_); refine zan rfl ?_) | ((with_reducible refine zcx ?_); refine zah [0] (reads_spec w0 p s x) rfl rfl rfl sub_nil rfl ?_)) | refine zch ?_)
  refine run_condV rfl (fun hE => ?_) (fun hE => ?_)
  · generalize hs1 : (s.reads x).2 = s1
    have hp1 : s1.puts = s.puts := by rw [← hs1, reads_puts]
    have e : s.put x v = { s1 with puts := s1.puts ++ [(x, v)] } := by simp [Sp.put, hE, hs1, hp1]
    rw [e]
    refine run_open [0] (SpaceParts p s1) rfl (fun _ h => h) ?_
    rintro ⟨bk, br, sa, cap⟩
    repeat' (first | refine zcp (by kernel_rfl) ?_ | (refine zap rfl ?_; first | refine zcb rfl ?_ | refine reg_buildSlice rfl rfl rfl rfl rfl rfl (fun nb => ?_) | refine reg_append 3 4 rfl rfl rfl rfl rfl rfl rfl rfl (by rw [hp1]; omega) (fun _ _ => rfl) (fun a' cap' => ?_) | ((with_reducible refine zcu ?_); refine zan rfl ?_) | ((with_reducible refine zcw ?_); refine zab 0 rfl rfl rfl ?_) | ((with_reducible refine zcy ?_); refine zao rfl ?_) | ((with_reducible refine zdd ?_); refine zae 0 rfl rfl rfl rfl rfl rfl rfl ?_) | ((with_reducible refine zde ?_); refine zan rfl ?_)) | refine zch ?_)
    refine run_close1 (A := SpaceA p { s1 with puts := s1.puts ++ [(x, v)] }) [0, 0, 0, 0] rfl (fun _ h => ⟨(bk, br, a', cap'), by unfold SpaceParts; rw [flat_append, List.length_append]; exact h⟩) ?_
    exact end_tmp0 rfl ⟨rfl, rfl⟩
  · have e : s.put x v = (s.reads x).2 := by simp [Sp.put, hE]
    rw [e]
    repeat' (first | refine zcm ?_ | (refine zap rfl ?_; first | ((with_reducible refine zcu ?_); refine zan rfl ?_)) | refine zch ?_)
    exact end_tmp0 rfl ⟨rfl, rfl⟩

theorem back_spec (w0 : World) (p : Nat) (s : Sp) (m : Int) : FnE PP w0 [] 47 [spP p, .int .i64 m] [SpaceA p s] (.tuple #[]) [SpaceA p (s.back m)] := by
  refine fn_of_run en47 fn47 rfl rfl rfl ?_
  obtain ⟨kn, rd, puts, need, ended⟩ := s
  generalize hs : (⟨kn, rd, puts, need, ended⟩ : Sp) = s
  cases ended with
  | true =>
    have e : s.back m = s := by rw [← hs]; simp [Sp.back]
    rw [e, ← hs]
    repeat' (first | refine zck ?_ | refine zcp (by kernel_rfl) ?_ | refine zcm ?_ | (refine zap rfl ?_; first | ((with_reducible refine zct ?_); refine zak rfl ?_) | ((with_reducible refine zcu ?_); refine zan rfl ?_) | ((with_reducible refine zcx ?_); refine zah [0] (ended_spec w0 p _) rfl rfl rfl sub_nil rfl ?_) | ((with_reducible refine zdb ?_); refine zbx rfl ?_) | ((with_reducible refine zdc ?_); refine zbv rfl ?_)) | refine zch ?_ | refine zcj rfl ?_)
    exact end_tmp0 rfl ⟨rfl, rfl⟩
  | false =>
    by_cases h0 : 0 ≤ m
    · have d0 : decide (0 ≤ m) = true := decide_eq_true h0
      by_cases h1 : m ≤ puts.length
      · have d1 : decide (m ≤ (puts.length : Int)) = true := decide_eq_true h1
        have e : s.back m = ⟨kn, rd, puts.take m.toNat, need, false⟩ := by rw [← hs]; simp [Sp.back, h0, h1]
        rw [e, ← hs]
        repeat' (first | refine zck ?_ | refine zcp (by kernel_rfl) ?_ | (refine zap rfl ?_; first | (refine zbt rfl rfl ?_; rw [d0]) | ((with_reducible refine zct ?_); refine zaj rfl ?_) | ((with_reducible refine zcu ?_); refine zan rfl ?_) | ((with_reducible refine zcx ?_); refine zah [0] (ended_spec w0 p _) rfl rfl rfl sub_nil rfl ?_) | ((with_reducible refine zcy ?_); refine zao rfl ?_) | ((with_reducible refine zdb ?_); refine zbx rfl ?_) | ((with_reducible refine zdc ?_); refine zbu rfl ?_) | ((with_reducible refine zde ?_); refine zan rfl ?_)) | refine zch ?_)
        refine reg_open [0] (SpaceParts p ⟨kn, rd, puts, need, false⟩) rfl rfl (fun _ h => h) ?_
        rintro ⟨bk, br, sa, cap⟩
        refine reg_know rfl (sl_know 3 rfl) (fun hcap => ?_)
        have hcap2 : puts.length ≤ cap := hcap.2
        repeat' (first | refine zcp (by kernel_rfl) ?_ | (refine zap rfl ?_; first | (refine zbr rfl rfl ?_; rw [d1]) | refine reg_slice3 rfl rfl rfl (h' := m) (m' := m) ⟨h0, Int.le_refl _, Int.le_trans h1 (Int.ofNat_le.2 hcap2)⟩ ?_ | ((with_reducible refine zct ?_); refine zaj rfl ?_) | ((with_reducible refine zcu ?_); refine zan rfl ?_) | ((with_reducible refine zcw ?_); refine zab 0 rfl rfl rfl ?_) | ((with_reducible refine zcx ?_); refine zce rfl ?_) | ((with_reducible refine zcy ?_); refine zao rfl ?_) | ((with_reducible refine zdc ?_); refine zbu rfl ?_) | ((with_reducible refine zdd ?_); refine zae 0 rfl rfl rfl rfl rfl rfl rfl ?_) | ((with_reducible refine zde ?_); refine zan rfl ?_)) | refine zch ?_ | refine zci rfl ?_)
        refine run_exch 3 (SlA 104 2 sa m.toNat m.toNat ((flat puts).take (m.toNat * 2))) rfl (fun g hg => SlA_cut hg (by show m.toNat ≤ puts.length; omega)) rfl ?_
        have hl : (puts.take m.toNat).length = m.toNat := by rw [List.length_take]; omega
        refine run_close1 (A := SpaceA p ⟨kn, rd, puts.take m.toNat, need, false⟩) [0, 0, 0, 0] rfl (fun _ h => ⟨(bk, br, sa, m.toNat), by unfold SpaceParts; rw [hl, ← flat_take]; exact h⟩) ?_
        exact end_tmp0 rfl ⟨rfl, rfl⟩
      · have d1 : decide (m ≤ (puts.length : Int)) = false := decide_eq_false h1
        have e : s.back m = s := by rw [← hs]; simp [Sp.back, h1]
        rw [e, ← hs]
        repeat' (first | refine zck ?_ | refine zcp (by kernel_rfl) ?_ | (refine zap rfl ?_; first | (refine zbt rfl rfl ?_; rw [d0]) | ((with_reducible refine zct ?_); refine zaj rfl ?_) | ((with_reducible refine zcu ?_); refine zan rfl ?_) | ((with_reducible refine zcx ?_); refine zah [0] (ended_spec w0 p _) rfl rfl rfl sub_nil rfl ?_) | ((with_reducible refine zcy ?_); refine zao rfl ?_) | ((with_reducible refine zdb ?_); refine zbx rfl ?_) | ((with_reducible refine zdc ?_); refine zbu rfl ?_) | ((with_reducible refine zde ?_); refine zan rfl ?_)) | refine zch ?_)
        refine reg_open [0] (SpaceParts p ⟨kn, rd, puts, need, false⟩) rfl rfl (fun _ h => h) ?_
        rintro ⟨bk, br, sa, cap⟩
        repeat' (first | refine zcm ?_ | (refine zap rfl ?_; first | (refine zbr rfl rfl ?_; rw [d1]) | ((with_reducible refine zct ?_); refine zaj rfl ?_) | ((with_reducible refine zcw ?_); refine zab 0 rfl rfl rfl ?_) | ((with_reducible refine zcx ?_); refine zce rfl ?_) | ((with_reducible refine zdc ?_); refine zbu rfl ?_)) | refine zch ?_ | refine zcj rfl ?_)
        refine run_close1 (A := SpaceA p ⟨kn, rd, puts, need, false⟩) [0, 0, 0, 0] rfl (fun _ h => ⟨(bk, br, sa, cap), h⟩) ?_
        exact end_tmp0 rfl ⟨rfl, rfl⟩
    · have d0 : decide (0 ≤ m) = false := decide_eq_false h0
      have e : s.back m = s := by rw [← hs]; simp [Sp.back, h0]
      rw [e, ← hs]
      repeat' (first | refine zck ?_ | refine zcp (by kernel_rfl) ?_ | refine zcm ?_ | (refine zap rfl ?_; first | (refine zbt rfl rfl ?_; rw [d0]) | ((with_reducible refine zct ?_); first | refine zaj rfl ?_ | refine zak rfl ?_) | ((with_reducible refine zcu ?_); refine zan rfl ?_) | ((with_reducible refine zcx ?_); refine zah [0] (ended_spec w0 p _) rfl rfl rfl sub_nil rfl ?_) | ((with_reducible refine zdb ?_); refine zbx rfl ?_) | ((with_reducible refine zdc ?_); first | refine zbu rfl ?_ | refine zbv rfl ?_)) | refine zch ?_ | refine zcj rfl ?_)
      exact end_tmp0 rfl ⟨rfl, rfl⟩
end Go.Proofs.Ytpcnbaddkblbhaa

/- Programs over a space, as data: what they compute, and general laws of them. -/
namespace Sim
open Go Go.Vc

inductive Pg (α : Type) : Type where
  | ret : α → Pg α
  | get : Int → (Int → Pg α) → Pg α
  | put : Int → Int → Pg α → Pg α
  | mark : (Nat → Pg α) → Pg α
  | back : Nat → Pg α → Pg α
namespace Pg
variable {α β γ : Type}
def bind : Pg α → (α → Pg β) → Pg β
  | ret a, f => f a
  | get x k, f => get x fun v => (k v).bind f
  | put x v k, f => put x v (k.bind f)
  | mark k, f => mark fun m => (k m).bind f
  | back m k, f => back m (k.bind f)
instance : Monad Pg where
  pure := ret
  bind := bind
def gt (x : Int) : Pg Int := get x ret
def pt (x v : Int) : Pg Unit := put x v (ret ())
def mk : Pg Nat := mark ret
def bk (m : Nat) : Pg Unit := back m (ret ())

def run : Pg α → Sp → α × Sp
  | ret a, s => (a, s)
  | get x k, s => run (k (s.get x).1) (s.get x).2
  | put x v k, s => run k (s.put x v)
  | mark k, s => run (k s.puts.length) s
  | back m k, s => run k (s.back m)
/-- There is room for all that it writes. -/
def Fits : Pg α → Sp → Prop
  | ret _, s => s.puts.length ≤ 1099511627776
  | get x k, s => s.puts.length ≤ 1099511627776 ∧ Fits (k (s.get x).1) (s.get x).2
  | put x v k, s => s.puts.length ≤ 1099511627776 ∧ Fits k (s.put x v)
  | mark k, s => s.puts.length ≤ 1099511627776 ∧ Fits (k s.puts.length) s
  | back m k, s => s.puts.length ≤ 1099511627776 ∧ Fits k (s.back m)
theorem Fits.here : ∀ {g : Pg α} {s : Sp}, Fits g s → s.puts.length ≤ 1099511627776
  | ret _, _, h => h
  | get _ _, _, h => h.1
  | put _ _ _, _, h => h.1
  | mark _, _, h => h.1
  | back _ _, _, h => h.1
theorem run_bind (f : α → Pg β) : ∀ (g : Pg α) (s : Sp), run (g >>= f) s = run (f (run g s).1) (run g s).2
  | ret _, _ => rfl
  | get x k, s => run_bind f (k (s.get x).1) (s.get x).2
  | put x v k, s => run_bind f k (s.put x v)
  | mark k, s => run_bind f (k s.puts.length) s
  | back m k, s => run_bind f k (s.back m)
theorem fits_bind (f : α → Pg β) : ∀ (g : Pg α) (s : Sp), Fits (g >>= f) s → Fits g s ∧ Fits (f (run g s).1) (run g s).2
  | ret _, _, h => ⟨Fits.here h, h⟩
  | get x k, s, h => let ⟨h1, h2⟩ := fits_bind f (k (s.get x).1) (s.get x).2 h.2; ⟨⟨h.1, h1⟩, h2⟩
  | put x v k, s, h => let ⟨h1, h2⟩ := fits_bind f k (s.put x v) h.2; ⟨⟨h.1, h1⟩, h2⟩
  | mark k, s, h => let ⟨h1, h2⟩ := fits_bind f (k s.puts.length) s h.2; ⟨⟨h.1, h1⟩, h2⟩
  | back m k, s, h => let ⟨h1, h2⟩ := fits_bind f k (s.back m) h.2; ⟨⟨h.1, h1⟩, h2⟩
theorem bind_assoc (f : α → Pg β) (g : β → Pg γ) : ∀ (x : Pg α), (x >>= f) >>= g = x >>= fun a => f a >>= g
  | ret _ => rfl
  | get x k => congrArg (get x) (funext fun v => bind_assoc f g (k v))
  | put x v k => congrArg (put x v) (bind_assoc f g k)
  | mark k => congrArg mark (funext fun m => bind_assoc f g (k m))
  | back m k => congrArg (back m) (bind_assoc f g k)
theorem pure_bind (a : α) (f : α → Pg β) : (pure a >>= f) = f a := rfl
theorem ret_bind (a : α) (f : α → Pg β) : (Pg.ret a >>= f) = f a := rfl
theorem ite_bind (c : Prop) [Decidable c] (x y : Pg α) (f : α → Pg β) : ((if c then x else y) >>= f) = if c then x >>= f else y >>= f := by split <;> rfl
theorem bind_pure : ∀ (x : Pg α), (x >>= fun a => pure a) = x
  | ret _ => rfl
  | get x k => congrArg (get x) (funext fun v => bind_pure (k v))
  | put x v k => congrArg (put x v) (bind_pure k)
  | mark k => congrArg mark (funext fun m => bind_pure (k m))
  | back m k => congrArg (back m) (bind_pure k)

/-- At most so many writes. -/
def Bd : Nat → Pg α → Prop
  | _, ret _ => True
  | j, get _ k => ∀ v, Bd j (k v)
  | 0, put _ _ _ => False
  | j + 1, put _ _ k => Bd j k
  | j, mark k => ∀ m, Bd j (k m)
  | j, back _ k => Bd j k
theorem Bd.mono : ∀ {g : Pg α} {i j : Nat}, i ≤ j → Bd i g → Bd j g
  | ret _, i, j, _, _ => by simp [Bd]
  | get _ k, i, j, h, hb => by simp only [Bd] at hb ⊢; exact fun v => Bd.mono h (hb v)
  | put _ _ k, 0, j, h, hb => by simp [Bd] at hb
  | put _ _ k, i + 1, 0, h, hb => absurd h (by omega)
  | put _ _ k, i + 1, j + 1, h, hb => by simp only [Bd] at hb ⊢; exact Bd.mono (by omega) hb
  | mark k, i, j, h, hb => by simp only [Bd] at hb ⊢; exact fun v => Bd.mono h (hb v)
  | back _ k, i, j, h, hb => by simp only [Bd] at hb ⊢; exact Bd.mono h hb
theorem bd_bind {f : α → Pg β} {j : Nat} (hf : ∀ a, Bd j (f a)) : ∀ {g : Pg α} {i : Nat}, Bd i g → Bd (i + j) (g >>= f)
  | ret a, i, _ => Bd.mono (by omega) (hf a)
  | get x k, i, h => by
    simp only [Bd] at h
    show Bd (i + j) (get x fun v => (k v >>= f))
    simp only [Bd]
    exact fun v => bd_bind hf (h v)
  | put x v k, 0, h => by simp [Bd] at h
  | put x v k, i + 1, h => by
    simp only [Bd] at h
    show Bd (i + 1 + j) (put x v (k >>= f))
    rw [show i + 1 + j = (i + j) + 1 by omega]
    simp only [Bd]
    exact bd_bind hf h
  | mark k, i, h => by
    simp only [Bd] at h
    show Bd (i + j) (mark fun v => (k v >>= f))
    simp only [Bd]
    exact fun v => bd_bind hf (h v)
  | back m k, i, h => by
    simp only [Bd] at h
    show Bd (i + j) (back m (k >>= f))
    simp only [Bd]
    exact bd_bind hf h
theorem bd_seq {f : α → Pg β} {g : Pg α} {i j n : Nat} (hg : Bd i g) (hf : ∀ a, Bd j (f a)) (h : i + j ≤ n) : Bd n (g >>= f) := (bd_bind hf hg).mono h
theorem bd_then {f : α → Pg β} {g : Pg α} {i n : Nat} (hg : Bd i g) (hf : ∀ a, Bd (n - i) (f a)) (h : i ≤ n) : Bd n (g >>= f) := bd_seq hg hf (by omega)
theorem bd_gt0 (x : Int) : Bd 0 (gt x) := fun _ => trivial
theorem bd_mk0 : Bd 0 mk := fun _ => trivial
theorem bd_bk0 (m : Nat) : Bd 0 (bk m) := trivial
theorem bd_pure {j : Nat} (a : α) : Bd j (pure a : Pg α) := by show Bd j (ret a); simp [Bd]
theorem bd_gt (x : Int) (j : Nat) : Bd j (gt x) := by simp [gt, Bd]
theorem bd_pt (x v : Int) : Bd 1 (pt x v) := by simp [pt, Bd]
theorem bd_mk (j : Nat) : Bd j mk := by simp [mk, Bd]
theorem bd_bk (m j : Nat) : Bd j (bk m) := by simp [bk, Bd]
theorem bd_ite {c : Prop} [Decidable c] {x y : Pg α} {j : Nat} (hx : Bd j x) (hy : Bd j y) : Bd j (if c then x else y) := by split <;> assumption
theorem reads_puts' (s : Sp) (x : Int) : (s.reads x).2.puts = s.puts := by unfold Sp.reads; split; rfl; split <;> rfl
theorem get_puts (s : Sp) (x : Int) : (s.get x).2.puts = s.puts := by simp only [Sp.get]; split <;> exact reads_puts' s x
theorem put_len (s : Sp) (x v : Int) : (s.put x v).puts.length ≤ s.puts.length + 1 := by
  simp only [Sp.put]; split
  · simp
  · rw [reads_puts']; omega
theorem back_len (s : Sp) (m : Int) : (s.back m).puts.length ≤ s.puts.length := by
  simp only [Sp.back]; split
  · simp; omega
  · exact Nat.le_refl _
theorem run_len : ∀ (g : Pg α) (j : Nat) (s : Sp), Bd j g → (run g s).2.puts.length ≤ s.puts.length + j
  | ret _, _, _, _ => Nat.le_add_right _ _
  | get x k, j, s, h => by
    simp only [Bd] at h
    have := run_len (k (s.get x).1) j (s.get x).2 (h _)
    rw [get_puts] at this; exact this
  | put x v k, 0, s, h => by simp [Bd] at h
  | put x v k, j + 1, s, h => by
    simp only [Bd] at h
    have := run_len k j (s.put x v) h
    have h2 := put_len s x v
    simp only [run]; omega
  | mark k, j, s, h => by
    simp only [Bd] at h
    exact run_len (k s.puts.length) j s (h _)
  | back m k, j, s, h => by
    simp only [Bd] at h
    have := run_len k j (s.back m) h
    have h2 := back_len s m
    simp only [run]; omega
theorem fits_of : ∀ (g : Pg α) (j : Nat) (s : Sp), Bd j g → s.puts.length + j ≤ 1099511627776 → Fits g s
  | ret _, _, s, _, h => by simp only [Fits]; omega
  | get x k, j, s, hb, h => by
    simp only [Bd] at hb
    exact ⟨by omega, fits_of _ j _ (hb _) (by rw [get_puts]; exact h)⟩
  | put x v k, 0, s, hb, h => by simp [Bd] at hb
  | put x v k, j + 1, s, hb, h => by
    simp only [Bd] at hb
    have h2 := put_len s x v
    exact ⟨by omega, fits_of _ j _ hb (by omega)⟩
  | mark k, j, s, hb, h => by
    simp only [Bd] at hb
    exact ⟨by omega, fits_of _ j _ (hb _) h⟩
  | back m k, j, s, hb, h => by
    simp only [Bd] at hb
    have h2 := back_len s m
    exact ⟨by omega, fits_of _ j _ hb (by omega)⟩
/-- All that it may yield. -/
def All (φ : α → Prop) : Pg α → Prop
  | ret a => φ a
  | get _ k => ∀ v, All φ (k v)
  | put _ _ k => All φ k
  | mark k => ∀ m, All φ (k m)
  | back _ k => All φ k
theorem all_run {φ : α → Prop} : ∀ {g : Pg α} {s : Sp}, All φ g → φ (run g s).1
  | ret _, _, h => h
  | get x k, s, h => all_run (g := k (s.get x).1) (s := (s.get x).2) (h _)
  | put x v k, s, h => all_run (g := k) (s := s.put x v) h
  | mark k, s, h => all_run (g := k s.puts.length) (s := s) (h _)
  | back m k, s, h => all_run (g := k) (s := s.back m) h
theorem all_bind {φ : β → Prop} {ψ : α → Prop} {f : α → Pg β} (hf : ∀ a, ψ a → All φ (f a)) : ∀ {g : Pg α}, All ψ g → All φ (g >>= f)
  | ret a, h => hf a h
  | get _ _, h => fun v => all_bind hf (h v)
  | put _ _ k, h => all_bind (g := k) hf h
  | mark _, h => fun m => all_bind hf (h m)
  | back _ k, h => all_bind (g := k) hf h
theorem all_then {φ : β → Prop} {f : α → Pg β} (hf : ∀ a, All φ (f a)) : ∀ {g : Pg α}, All φ (g >>= f)
  | ret a => hf a
  | get _ _ => fun _ => all_then hf
  | put _ _ k => all_then (g := k) hf
  | mark _ => fun _ => all_then hf
  | back _ k => all_then (g := k) hf
theorem all_ite {φ : α → Prop} {c : Prop} [Decidable c] {x y : Pg α} (hx : c → All φ x) (hy : ¬ c → All φ y) : All φ (if c then x else y) := by split; exact hx ‹_›; exact hy ‹_›
theorem all_pure {φ : α → Prop} {a : α} (h : φ a) : All φ (pure a : Pg α) := h
end Pg
/-- What is still to be computed from here comes to `R`. -/
structure At {α : Type} (R : α × Sp) (g : Pg α) (s : Sp) : Prop where
  eq : R = Pg.run g s
  fits : Pg.Fits g s
theorem At.start {α : Type} {g : Pg α} {s : Sp} (h : Pg.Fits g s) : At (Pg.run g s) g s := ⟨rfl, h⟩
theorem At.step {α β : Type} {R : β × Sp} {g : Pg α} {f : α → Pg β} {s : Sp} (h : At R (g >>= f) s) : Pg.Fits g s ∧ At R (f (Pg.run g s).1) (Pg.run g s).2 :=
  ⟨(Pg.fits_bind f g s h.fits).1, h.eq.trans (Pg.run_bind f g s), (Pg.fits_bind f g s h.fits).2⟩
theorem At.to {α : Type} {R : α × Sp} {g g' : Pg α} {s : Sp} (h : At R g s) (e : g = g') : At R g' s := e ▸ h
theorem At.last {α : Type} {R : α × Sp} {g : Pg α} {s : Sp} (h : At R g s) : Pg.Fits g s ∧ At R (Pg.ret (Pg.run g s).1) (Pg.run g s).2 :=
  At.step (f := fun a => (pure a : Pg α)) (h.to (Pg.bind_pure g).symm)
theorem At.done {α : Type} {R : α × Sp} {a : α} {s : Sp} (h : At R (Pg.ret a) s) : R = (a, s) := h.eq
end Sim

/- Contracts by programs, and the rule of their calls. -/
namespace Go.Proofs.Ytpcnbaddkblbhaa
open Go.Vc Sim

abbrev FnG {α : Type} (w0 : World) (sh : Shared) (f : FuncId) (args : List Value) (p : Nat) (g : Pg α) (enc : α → Value) : Prop :=
  ∀ s, Pg.Fits g s → FnE PP w0 sh f args [SpaceA p s] (enc (Pg.run g s).1) [SpaceA p (Pg.run g s).2]

section
variable {w0 : World} {n : Nat} {sh shf : Shared} {Q : Exit → Env → List Deferred → List Asn → Prop} {k : List Item} {ρ : Env} {df : List Deferred} {Γ Γr : List Asn}
variable {ops : Array Oper} {l : List (Fl × Nat × Oper)} {i : Nat} {ty : TypeId} {pos : String} {aft : Array Edge} {dst : Option Tmp}
variable {f : FuncId} {args : List Value} {fo : Operand} {cargs : Array Operand} {ats : Array TypeId} {first cap : Array Value}
theorem reg_callG (is : List Nat) {α β : Type} {R : β × Sp} {g : Pg α} {kk : α → Pg β} {s : Sp} {p : Nat} {enc : α → Value} (hG : At R (g >>= kk) s) (spec : FnG w0 shf f args p g enc)
    (hfo : ev ρ fo = .func (.func f) first cap) (hargs : first.toList ++ cargs.toList.map (ev ρ) ++ cap.toList = args)
    (hp : pick is Γ = some ([SpaceA p s], Γr)) (hsh : ∀ p ∈ shf, p ∈ sh) (h : ∀ x s', At R (kk x) s' → Reg PP w0 n sh Q ops l k (ρ.setO dst (enc x)) df (SpaceA p s' :: Γr)) :
    Reg PP w0 n sh Q ops ((Fl.loud, i, ⟨dst, .call ⟨.value fo, cargs, ats⟩, ty, pos, aft, none⟩) :: l) k ρ df Γ :=
  zah is (spec s hG.step.1) hfo hargs hp hsh rfl (h _ _ hG.step.2)
theorem reg_callGP (is : List Nat) {α β : Type} {R : β × Sp} {g : Pg α} {kk : α → Pg β} {s : Sp} {p : Nat} {enc : α → Value} {φ : α → Prop} (hG : At R (g >>= kk) s) (hφ : Pg.All φ g) (spec : FnG w0 shf f args p g enc)
    (hfo : ev ρ fo = .func (.func f) first cap) (hargs : first.toList ++ cargs.toList.map (ev ρ) ++ cap.toList = args)
    (hp : pick is Γ = some ([SpaceA p s], Γr)) (hsh : ∀ p ∈ shf, p ∈ sh) (h : ∀ x s', φ x → At R (kk x) s' → Reg PP w0 n sh Q ops l k (ρ.setO dst (enc x)) df (SpaceA p s' :: Γr)) :
    Reg PP w0 n sh Q ops ((Fl.loud, i, ⟨dst, .call ⟨.value fo, cargs, ats⟩, ty, pos, aft, none⟩) :: l) k ρ df Γ :=
  zah is (spec s hG.step.1) hfo hargs hp hsh rfl (h _ _ (Pg.all_run hφ) hG.step.2)
end
theorem getG (w0 : World) (p : Nat) (x : Int) : FnG w0 [] 41 [spP p, .int .i64 x] p (Pg.gt x) (.int .i64) := fun s h => get_spec w0 p s x h.1
theorem putG (w0 : World) (p : Nat) (x v : Int) : FnG w0 [] 49 [spP p, .int .i64 x, .int .i64 v] p (Pg.pt x v) (fun _ => .tuple #[]) := fun s h => put_spec w0 p s x v h.1
theorem markG (w0 : World) (p : Nat) : FnG w0 [] 45 [spP p] p Pg.mk (fun m => .int .i64 m) := fun s _ => mark_spec w0 p s
theorem backG (w0 : World) (p m : Nat) : FnG w0 [] 47 [spP p, .int .i64 m] p (Pg.bk m) (fun _ => .tuple #[]) := fun s _ => back_spec w0 p s m
end Go.Proofs.Ytpcnbaddkblbhaa

/- The plain model of package pool. -/
namespace Sim
open Go Go.Vc

def Sm (s : Sp) (j : Nat) : Prop := s.puts.length + j ≤ 1099511627776
theorem Sm.mono {s : Sp} {j i : Nat} (h : Sm s j) (hi : i ≤ j) : Sm s i := by unfold Sm at *; omega
theorem reads_putsL (s : Sp) (x : Int) : (s.reads x).2.puts = s.puts := by unfold Sp.reads; split; rfl; split <;> rfl
theorem sm_get {s : Sp} {j : Nat} {a : Int} (h : Sm s j) : Sm (s.get a).2 j := by
  unfold Sm at *; simp only [Sp.get]; split <;> simpa [reads_putsL] using h
theorem sm_put {s : Sp} {j : Nat} {a v : Int} (h : Sm s (j + 1)) : Sm (s.put a v) j := by
  unfold Sm at *; simp only [Sp.put]; split
  · simp; omega
  · simp only [reads_putsL]; omega
theorem sm_back {s : Sp} {j : Nat} {m : Int} (h : Sm s j) : Sm (s.back m) j := by
  unfold Sm at *; simp only [Sp.back]; split
  · simp; omega
  · exact h

def w64 (x : Int) : Int := IntKind.i64.wrap x

structure Pl where
  root : Int
  frm : Int
  nodes : Int
def Pl.chk (P : Pl) : Int :=
  if P.root < 0 ∨ P.frm < 1 ∨ P.nodes < 0 ∨ 128 < P.nodes then 1 else if 4093 < P.root ∨ 4096 - 8 * P.nodes < P.frm then 1 else if 0 < P.nodes ∧ P.frm < P.root + 3 ∧ P.root < P.frm + 8 * P.nodes then 1 else 0
/-- A pool that is valid. -/
def Pl.Ok (P : Pl) : Prop := P.chk = 0 ∧ 0 ≤ P.root ∧ P.root ≤ 4093 ∧ 1 ≤ P.frm ∧ P.frm ≤ 4096 ∧ 0 ≤ P.nodes ∧ P.nodes ≤ 128
def Pl.node (P : Pl) (a : Int) : Bool := decide (P.frm ≤ a) && decide ((w64 (a - P.frm)).tmod 8 = 0) && decide (w64 ((w64 (a - P.frm)).tdiv 8) < P.nodes)
def Pl.idx (P : Pl) (a : Int) : Int := if P.node a then w64 ((w64 (a - P.frm)).tdiv 8) else 0
def Pl.add (P : Pl) (s : Sp) (c n : Int) : Sp := (s.get (P.root + c)).2.put (P.root + c) (w64 ((s.get (P.root + c)).1 + n))
def Pl.take (P : Pl) (s : Sp) : Int × Int × Sp :=
  if (s.get P.root).1 ≠ 0 then
    if P.node (s.get P.root).1 then
      ((s.get P.root).1, 0, P.add (((s.get P.root).2.get (s.get P.root).1).2.put P.root ((s.get P.root).2.get (s.get P.root).1).1) 2 (-1))
    else (0, 24, (s.get P.root).2)
  else
    if ((s.get P.root).2.get (P.root + 1)).1 < 0 ∨ P.nodes ≤ ((s.get P.root).2.get (P.root + 1)).1 then (0, 9, ((s.get P.root).2.get (P.root + 1)).2)
    else (P.frm + 8 * ((s.get P.root).2.get (P.root + 1)).1, 0, ((s.get P.root).2.get (P.root + 1)).2.put (P.root + 1) (((s.get P.root).2.get (P.root + 1)).1 + 1))
def Pl.give (P : Pl) (s : Sp) (a : Int) : Int × Sp :=
  if P.node a then (0, P.add (((s.get P.root).2.put a (s.get P.root).1).put P.root a) 2 1) else (1, s)
def Pl.left (P : Pl) (s : Sp) : Int × Sp :=
  (max (w64 (w64 ((s.get (P.root + 2)).1 + P.nodes) - ((s.get (P.root + 2)).2.get (P.root + 1)).1)) 0, ((s.get (P.root + 2)).2.get (P.root + 1)).2)
end Sim

/- The walks of package pool. -/
namespace Go.Proofs.Ytpcnbaddkblbhaa
open Go.Vc Sim
def poolV (P : Pl) : Value := .agg #[.int .i64 P.root, .int .i64 P.frm, .int .i64 P.nodes]
theorem getS (w0 : World) (p : Nat) (s : Sp) (x : Int) (h : Sm s 0) : FnE PP w0 [] 41 [spP p, .int .i64 x] [SpaceA p s] (.int .i64 (s.get x).1) [SpaceA p (s.get x).2] := get_spec w0 p s x h
theorem putS (w0 : World) (p : Nat) (s : Sp) (x v : Int) (h : Sm s 0) : FnE PP w0 [] 49 [spP p, .int .i64 x, .int .i64 v] [SpaceA p s] (.tuple #[]) [SpaceA p (s.put x v)] := put_spec w0 p s x v h

theorem check_spec (w0 : World) (P : Pl) (hP : P.Ok) : FnE PP w0 [] 92 [poolV P] [] (.int .i64 0) [] := by
  obtain ⟨h, _⟩ := hP
  refine fn_of_run en92 fn92 rfl rfl rfl ?_
  repeat (first | refine zck ?_ | refine zcl ?_ | refine zcm ?_ | refine zcn ?_)
  first | refine zcp (by kernel_rfl) ?_ | refine zcq PP_mixed (by kernel_rfl) (by kernel_rfl) ?_
  repeat' (refine zap rfl ?_; first | ((with_reducible refine zcv ?_); refine zan rfl ?_) | ((with_reducible refine zdg ?_); refine zaq (cs := [_, _, _]) rfl (fun nb => ?_)))
  all_goals refine zch ?_
  all_goals repeat (first | refine zck ?_ | refine zcl ?_ | refine zcm ?_ | refine zcn ?_)
  refine run_share [0] rfl ?_
  repeat' (first | refine zck ?_ | refine zcp (by kernel_rfl) ?_ | refine zcm ?_ | refine zcn ?_ | (refine zap rfl ?_; first | ((with_reducible refine zct ?_); first | refine zaj rfl ?_ | refine zak rfl ?_ | refine zam rfl rfl (fun _ => ?_) (fun _ => ?_)) | ((with_reducible refine zcu ?_); refine zan rfl ?_) | ((with_reducible refine zcv ?_); refine zan rfl ?_) | ((with_reducible refine zcw ?_); refine zaa 0 rfl rfl rfl ?_) | ((with_reducible refine zcy ?_); refine zao rfl ?_) | ((with_reducible refine zda ?_); first | refine zau rfl rfl (by omega) ?_ | refine zav rfl rfl (by omega) ?_ | refine zaw rfl rfl (by omega) ?_ | refine zbq rfl rfl ?_ | refine zbs rfl rfl ?_) | ((with_reducible refine zdc ?_); first | refine zbu rfl ?_ | refine zbv rfl ?_)) | refine zch ?_ | refine zci rfl ?_ | refine zcj rfl ?_ | refine run_cond rfl (fun _ => ?_) (fun _ => ?_))
  all_goals (refine ret_tmp1 rfl ?_; refine ⟨int_eq ?_, rfl⟩)
  all_goals (unfold Pl.chk at h; split at h <;> try split at h <;> try split at h)
  all_goals omega

theorem node_spec (w0 : World) (P : Pl) (hP : P.Ok) (a : Int) : FnE PP w0 [] 77 [poolV P, .int .i64 a] [] (.tuple #[.int .i64 (P.idx a), .bool (P.node a)]) [] := by
  refine fn_of_run en77 fn77 rfl rfl rfl ?_
  repeat (first | refine zck ?_ | refine zcl ?_ | refine zcm ?_ | refine zcn ?_)
  first | refine zcp (by kernel_rfl) ?_ | refine zcq PP_mixed (by kernel_rfl) (by kernel_rfl) ?_
  repeat' (refine zap rfl ?_; first | ((with_reducible refine zcv ?_); refine zan rfl ?_) | ((with_reducible refine zdg ?_); refine zaq (cs := [_, _, _]) rfl (fun nb => ?_)))
  all_goals refine zch ?_
  all_goals repeat (first | refine zck ?_ | refine zcl ?_ | refine zcm ?_ | refine zcn ?_)
  refine run_share [0] rfl ?_
  repeat' (first | refine zck ?_ | refine zcp (by kernel_rfl) ?_ | refine zcm ?_ | (refine zap rfl ?_; first | refine reg_sub rfl rfl ?_ | refine reg_rem rfl rfl (by decide) ?_ | refine reg_quo rfl rfl (by decide) ?_ | ((with_reducible refine zct ?_); first | refine zaj rfl ?_ | refine zak rfl ?_ | refine zam rfl rfl (fun _ => ?_) (fun _ => ?_)) | ((with_reducible refine zcu ?_); refine zan rfl ?_) | ((with_reducible refine zcv ?_); refine zan rfl ?_) | ((with_reducible refine zcw ?_); refine zaa 0 rfl rfl rfl ?_) | ((with_reducible refine zcx ?_); refine zah [] (check_spec w0 P hP) rfl rfl rfl sub_nil rfl ?_) | ((with_reducible refine zcy ?_); refine zao rfl ?_) | ((with_reducible refine zda ?_); first | refine zbp rfl rfl ?_ | refine zbq rfl rfl ?_ | refine zbt rfl rfl ?_) | ((with_reducible refine zdc ?_); first | refine zbu rfl ?_ | refine zbv rfl ?_)) | refine zch ?_ | refine zci rfl ?_ | refine run_cond rfl (fun _ => ?_) (fun _ => ?_))
  all_goals refine ret_tmp2 rfl ⟨?_, rfl⟩
  all_goals refine congrArg Value.tuple (?_ : #[Value.int .i64 _, .bool _] = #[Value.int .i64 _, .bool _])
  all_goals simp_all [Pl.idx, Pl.node, w64, ← Int.not_lt]

theorem add_spec (w0 : World) (p : Nat) (P : Pl) (hP : P.Ok) (s : Sp) (c m : Int) (hc : 0 ≤ c ∧ c ≤ 3) (hsm : Sm s 1) : FnE PP w0 [] 93 [poolV P, spP p, .int .i64 c, .int .i64 m] [SpaceA p s] (.tuple #[]) [SpaceA p (P.add s c m)] := by
  obtain ⟨_, h1, h2, h3, h4, h5, h6⟩ := id hP
  refine fn_of_run en93 fn93 rfl rfl rfl ?_
  repeat (first | refine zck ?_ | refine zcl ?_ | refine zcm ?_ | refine zcn ?_)
  first | refine zcp (by kernel_rfl) ?_ | refine zcq PP_mixed (by kernel_rfl) (by kernel_rfl) ?_
  repeat' (refine zap rfl ?_; first | ((with_reducible refine zdg ?_); refine zaq (cs := [_, _, _]) rfl (fun nb => ?_)))
  all_goals refine zch ?_
  all_goals repeat (first | refine zck ?_ | refine zcl ?_ | refine zcm ?_ | refine zcn ?_)
  refine run_share [1] rfl ?_
  repeat' (first | refine zcq PP_mixed (by kernel_rfl) (by kernel_rfl) ?_ | (refine zap rfl ?_; first | refine reg_add (t := 2) rfl rfl ?_ | ((with_reducible refine zcu ?_); refine zan rfl ?_) | ((with_reducible refine zcw ?_); refine zaa 0 rfl rfl rfl ?_) | ((with_reducible refine zcx ?_); first | refine zah [0] (getS w0 p _ _ (by first | exact hsm.mono (by decide) | (repeat (first | refine sm_get ?_ | refine sm_put ?_)); exact hsm.mono (by decide))) rfl rfl rfl sub_nil rfl ?_ | refine zah [0] (putS w0 p _ _ _ (by first | exact hsm.mono (by decide) | (repeat (first | refine sm_get ?_ | refine sm_put ?_)); exact hsm.mono (by decide))) rfl rfl rfl sub_nil rfl ?_) | ((with_reducible refine zcy ?_); refine zao rfl ?_) | ((with_reducible refine zda ?_); refine zau rfl rfl (by omega) ?_)) | refine zch ?_)
  refine end_tmp0 rfl ⟨rfl, rfl⟩
end Go.Proofs.Ytpcnbaddkblbhaa

/- The pool as programs. -/
namespace Sim
open Go Go.Vc
theorem w64_in {x : Int} (h0 : -9223372036854775808 ≤ x) (h1 : x ≤ 9223372036854775807) : w64 x = x := wrap64_id h0 h1
def Pl.addP (P : Pl) (c n : Int) : Pg Unit := do
  let v ← Pg.gt (P.root + c)
  let _ ← Pg.pt (P.root + c) (w64 (v + n))
  pure ()
def Pl.takeP (P : Pl) : Pg (Int × Int) := do
  let first ← Pg.gt P.root
  if first ≠ 0 then
    if P.node first = true then do
      let x ← Pg.gt first
      let _ ← Pg.pt P.root x
      let _ ← P.addP 2 (-1)
      pure (first, 0)
    else pure (0, 24)
  else do
    let n ← Pg.gt (P.root + 1)
    if n < 0 ∨ P.nodes ≤ n then pure (0, 9) else do
      let _ ← Pg.pt (P.root + 1) (n + 1)
      pure (P.frm + 8 * n, 0)
def Pl.giveP (P : Pl) (a : Int) : Pg Int :=
  if P.node a = true then do
    let f ← Pg.gt P.root
    let _ ← Pg.pt a f
    let _ ← Pg.pt P.root a
    let _ ← P.addP 2 1
    pure 0
  else pure 1
def Pl.leftP (P : Pl) : Pg Int := do
  let f ← Pg.gt (P.root + 2)
  let h ← Pg.gt (P.root + 1)
  pure (max (w64 (w64 (f + P.nodes) - h)) 0)
def encI2 (r : Int × Int) : Value := .tuple #[.int .i64 r.1, .int .i64 r.2]
def encU (_ : Unit) : Value := .tuple #[]
theorem bd_addP (P : Pl) (c n : Int) : Pg.Bd 1 (P.addP c n) := fun _ => trivial
theorem bd_takeP (P : Pl) : Pg.Bd 2 P.takeP := by
  intro v
  dsimp only
  refine Pg.bd_ite (Pg.bd_ite (fun _ => fun _ => trivial) trivial) (fun _ => Pg.bd_ite trivial trivial)
theorem bd_giveP (P : Pl) (a : Int) : Pg.Bd 3 (P.giveP a) := Pg.bd_ite (fun _ => fun _ => trivial) trivial
theorem bd_leftP (P : Pl) : Pg.Bd 0 P.leftP := fun _ => fun _ => trivial
end Sim
namespace Go.Proofs.Ytpcnbaddkblbhaa
open Go.Vc Sim
theorem addG (w0 : World) (p : Nat) (P : Pl) (hP : P.Ok) (c m : Int) (hc : 0 ≤ c ∧ c ≤ 3) : FnG w0 [] 93 [poolV P, spP p, .int .i64 c, .int .i64 m] p (P.addP c m) encU := by
  obtain ⟨_, h1, h2, h3, h4, h5, h6⟩ := id hP
  intro s hF; have hG := At.start hF; generalize Pg.run _ s = R at hG ⊢
  refine fn_of_run en93 fn93 rfl rfl rfl ?_
  repeat (first | refine zck ?_ | refine zcl ?_ | refine zcm ?_ | refine zcn ?_)
  first | refine zcp (by kernel_rfl) ?_ | refine zcq PP_mixed (by kernel_rfl) (by kernel_rfl) ?_
  repeat' (refine zap rfl ?_; first | ((with_reducible refine zcu ?_); refine zan rfl ?_) | ((with_reducible refine zcw ?_); first | refine zaa 0 rfl rfl rfl ?_ | refine zaa 1 rfl rfl rfl ?_ | refine zaa 2 rfl rfl rfl ?_ | refine zaa 3 rfl rfl rfl ?_ | refine zaa 4 rfl rfl rfl ?_ | refine zaa 5 rfl rfl rfl ?_ | refine zab 0 rfl rfl rfl ?_ | refine zab 1 rfl rfl rfl ?_ | refine zab 2 rfl rfl rfl ?_ | refine zab 3 rfl rfl rfl ?_ | refine zab 4 rfl rfl rfl ?_ | refine zab 5 rfl rfl rfl ?_) | ((with_reducible refine zcy ?_); refine zao rfl ?_) | ((with_reducible refine zda ?_); first | refine reg_addZ rfl rfl (by omega) ?_ | refine zau rfl rfl (by omega) ?_) | ((with_reducible refine zdg ?_); refine zaq (cs := [_, _, _]) rfl (fun nb => ?_)))
  all_goals refine zch ?_
  all_goals repeat (first | refine zck ?_ | refine zcl ?_ | refine zcm ?_ | refine zcn ?_)
  refine run_share [1] rfl ?_
  repeat' (first | refine zck ?_ | refine zcp (by kernel_rfl) ?_ | refine zcq PP_mixed (by kernel_rfl) (by kernel_rfl) ?_ | refine zcm ?_ | refine zcl ?_ | refine zcn ?_ | refine zco ?_ | refine zcs rfl ?_ | (refine zap rfl ?_; first | refine reg_add (t := 2) rfl rfl ?_ | ((with_reducible refine zcu ?_); refine zan rfl ?_) | ((with_reducible refine zcw ?_); first | refine zaa 0 rfl rfl rfl ?_ | refine zaa 1 rfl rfl rfl ?_ | refine zaa 2 rfl rfl rfl ?_ | refine zaa 3 rfl rfl rfl ?_ | refine zaa 4 rfl rfl rfl ?_ | refine zaa 5 rfl rfl rfl ?_ | refine zab 0 rfl rfl rfl ?_ | refine zab 1 rfl rfl rfl ?_ | refine zab 2 rfl rfl rfl ?_ | refine zab 3 rfl rfl rfl ?_ | refine zab 4 rfl rfl rfl ?_ | refine zab 5 rfl rfl rfl ?_) | ((with_reducible refine zcx ?_); first | refine reg_callG [0] hG (getG w0 p _) rfl rfl rfl sub_nil (fun x s hG => ?_) | refine reg_callG [0] hG (putG w0 p _ _) rfl rfl rfl sub_nil (fun x s hG => ?_)) | ((with_reducible refine zcy ?_); refine zao rfl ?_) | ((with_reducible refine zda ?_); first | refine reg_addZ rfl rfl (by omega) ?_ | refine zau rfl rfl (by omega) ?_) | ((with_reducible refine zdg ?_); refine zaq (cs := [_, _, _]) rfl (fun nb => ?_))) | refine zch ?_ | refine zci rfl ?_ | refine zcj rfl ?_)
  rw [hG.done]
  refine end_tmp0 rfl ⟨rfl, rfl⟩
end Go.Proofs.Ytpcnbaddkblbhaa

/- The pool's walks against programs. -/
namespace Go.Proofs.Ytpcnbaddkblbhaa
open Go.Vc Sim
theorem takeG (w0 : World) (p : Nat) (P : Pl) (hP : P.Ok) : FnG w0 [] 78 [poolV P, spP p] p P.takeP encI2 := by
  obtain ⟨_, h1, h2, h3, h4, h5, h6⟩ := id hP
  intro s hF; have hG := At.start hF; generalize Pg.run _ s = R at hG ⊢
  refine fn_of_run en78 fn78 rfl rfl rfl ?_
  repeat (first | refine zck ?_ | refine zcl ?_ | refine zcm ?_ | refine zcn ?_)
  first | refine zcp (by kernel_rfl) ?_ | refine zcq PP_mixed (by kernel_rfl) (by kernel_rfl) ?_
  repeat' (refine zap rfl ?_; first | ((with_reducible refine zcv ?_); refine zan rfl ?_) | ((with_reducible refine zdg ?_); refine zaq (cs := [_, _, _]) rfl (fun nb => ?_)))
  all_goals refine zch ?_
  all_goals repeat (first | refine zck ?_ | refine zcl ?_ | refine zcm ?_ | refine zcn ?_)
  refine run_share [1] rfl ?_
  repeat' (first | refine zck ?_ | refine zcp (by kernel_rfl) ?_ | refine zcm ?_ | (refine zap rfl ?_; first | ((with_reducible refine zcu ?_); refine zan rfl ?_) | ((with_reducible refine zcv ?_); refine zan rfl ?_) | ((with_reducible refine zcw ?_); refine zaa 0 rfl rfl rfl ?_) | ((with_reducible refine zcx ?_); first | refine zah [] (check_spec w0 P hP) rfl rfl rfl sub_nil rfl ?_ | refine reg_callG [0] hG (getG w0 p _) rfl rfl rfl sub_nil (fun x s hG => ?_)) | ((with_reducible refine zcy ?_); refine zao rfl ?_) | ((with_reducible refine zda ?_); refine zbp rfl rfl ?_)) | refine zch ?_ | refine zcj rfl ?_)
  refine run_cond rfl (fun hE => ?_) (fun hE => ?_)
  · simp only [if_pos hE] at hG
    repeat' (first | refine zck ?_ | refine zcp (by kernel_rfl) ?_ | (refine zap rfl ?_; first | ((with_reducible refine zcu ?_); refine zan rfl ?_) | ((with_reducible refine zcv ?_); refine zan rfl ?_) | ((with_reducible refine zcw ?_); refine zaa 0 rfl rfl rfl ?_) | ((with_reducible refine zcx ?_); refine zah [] (node_spec w0 P hP _) rfl rfl rfl sub_nil rfl ?_) | ((with_reducible refine zcz ?_); refine zan rfl ?_) | ((with_reducible refine zdb ?_); refine zbx rfl ?_)) | refine zch ?_)
    refine run_condV rfl (fun hN => ?_) (fun hN => ?_)
    · have hN : P.node x = false := by simpa using hN
      simp only [hN, Bool.false_eq_true, if_false] at hG
      repeat' (first | refine zck ?_ | refine zcp (by kernel_rfl) ?_ | (refine zap rfl ?_; first | ((with_reducible refine zcv ?_); refine zan rfl ?_)) | refine zch ?_)
      rw [hG.done]
      exact ret_tmp2 rfl ⟨rfl, rfl⟩
    · have hN : P.node x = true := by simpa using hN
      simp only [hN, if_true] at hG
      repeat' (first | refine zck ?_ | refine zcp (by kernel_rfl) ?_ | refine zcq PP_mixed (by kernel_rfl) (by kernel_rfl) ?_ | refine zcm ?_ | (refine zap rfl ?_; first | ((with_reducible refine zcu ?_); refine zan rfl ?_) | ((with_reducible refine zcv ?_); refine zan rfl ?_) | ((with_reducible refine zcw ?_); refine zaa 0 rfl rfl rfl ?_) | ((with_reducible refine zcx ?_); first | refine reg_callG [0] hG (getG w0 p _) rfl rfl rfl sub_nil (fun x s hG => ?_) | refine reg_callG [0] hG (putG w0 p _ _) rfl rfl rfl sub_nil (fun x s hG => ?_) | refine reg_callG [0] hG (addG w0 p P hP _ _ (by decide)) rfl rfl rfl sub_nil (fun x s hG => ?_)) | ((with_reducible refine zcy ?_); refine zao rfl ?_)) | refine zch ?_)
      rw [hG.done]
      exact ret_tmp2 rfl ⟨rfl, rfl⟩
  · simp only [if_neg hE] at hG
    repeat' (first | refine zck ?_ | refine zcp (by kernel_rfl) ?_ | refine zcm ?_ | (refine zap rfl ?_; first | ((with_reducible refine zct ?_); first | refine zaj rfl ?_ | refine zak rfl ?_ | refine zam rfl rfl (fun _ => ?_) (fun _ => ?_)) | ((with_reducible refine zcu ?_); refine zan rfl ?_) | ((with_reducible refine zcv ?_); refine zan rfl ?_) | ((with_reducible refine zcw ?_); refine zaa 0 rfl rfl rfl ?_) | ((with_reducible refine zcx ?_); refine reg_callG [0] hG (getG w0 p _) rfl rfl rfl sub_nil (fun x s hG => ?_)) | ((with_reducible refine zcy ?_); refine zao rfl ?_) | ((with_reducible refine zda ?_); first | refine zau rfl rfl (by omega) ?_ | refine zbq rfl rfl ?_ | refine zbt rfl rfl ?_) | ((with_reducible refine zdc ?_); first | refine zbu rfl ?_ | refine zbv rfl ?_)) | refine zch ?_ | refine zci rfl ?_ | refine run_cond rfl (fun _ => ?_) (fun _ => ?_))
    all_goals first | rw [if_pos (by omega)] at hG | rw [if_neg (by omega)] at hG
    · rw [hG.done]
      exact ret_tmp2 rfl ⟨rfl, rfl⟩
    · rw [hG.done]
      exact ret_tmp2 rfl ⟨rfl, rfl⟩
    · repeat' (first | refine zck ?_ | refine zcp (by kernel_rfl) ?_ | (refine zap rfl ?_; first | ((with_reducible refine zcu ?_); refine zan rfl ?_) | ((with_reducible refine zcv ?_); refine zan rfl ?_) | ((with_reducible refine zcw ?_); refine zaa 0 rfl rfl rfl ?_) | ((with_reducible refine zcx ?_); refine reg_callG [0] hG (putG w0 p _ _) rfl rfl rfl sub_nil (fun x s hG => ?_)) | ((with_reducible refine zcy ?_); refine zao rfl ?_) | ((with_reducible refine zda ?_); first | refine zau rfl rfl (by omega) ?_ | refine zaw rfl rfl (by omega) ?_)) | refine zch ?_)
      rw [hG.done]
      exact ret_tmp2 rfl ⟨rfl, rfl⟩
end Go.Proofs.Ytpcnbaddkblbhaa

/- The forest as programs. -/
namespace Sim
open Go Go.Vc
structure Fo where
  pool : Pl
  root : Int
def Fo.Ok (F : Fo) : Prop := F.pool.Ok ∧ 0 ≤ F.root ∧ F.root ≤ 4096
namespace Fo
variable (F : Fo)
def nodeN (n : Int) : Int := if n ≤ 0 ∨ 4096 < n then 0 else n
def nodeB (n : Int) : Bool := if n ≤ 0 ∨ 4096 < n then false else F.pool.node n
def cell (x : Int) : Pg (Int × Bool) := do
  let t ← Pg.gt (F.root + 3 + (x - 1) / 2 / 8)
  pure (nodeN t + (x - 1) / 2 % 8, F.nodeB t)
def place (x : Int) : Pg (Int × Bool) := do
  let c ← F.cell x
  if c.2 = true then do
    let v ← Pg.gt c.1
    pure (nodeN v + (x - 1) % 2 * 4, F.nodeB v)
  else pure (0, false)
def many : Pg (Int × Bool) := do
  let n ← Pg.gt F.root
  pure (n, decide (0 ≤ n) && decide (n ≤ 64))
def check (x : Int) : Pg Int :=
  if x < 1 then pure 10 else do
    let n ← Pg.gt F.root
    if n < x then pure 10 else pure 0
def take : Pg (Int × Int) := do
  let t ← F.pool.takeP
  if t.2 ≠ 0 then pure (0, t.2) else do
    let v ← Pg.gt (F.root + 7)
    let _ ← Pg.pt (F.root + 7) (w64 (v + 1))
    pure (t.1, 0)
/-- The node of a new element. -/
def roomN (x : Int) : Pg Int := do
  let c ← F.cell x
  if c.2 = true then do
    let t ← F.take
    if t.2 ≠ 0 then pure t.2 else do
      let _ ← Pg.pt c.1 t.1
      pure 0
  else pure 24
def room (x : Int) : Pg Int :=
  if (x - 1) % 2 ≠ 0 then pure 0 else
  if (x - 1) / 2 % 8 = 0 then do
    let t ← F.take
    if t.2 ≠ 0 then pure t.2 else do
      let _ ← Pg.pt (F.root + 3 + (x - 1) / 2 / 8) t.1
      F.roomN x
  else F.roomN x
/-- Make, from the mark on. -/
def makeIn (x : Int) : Pg (Int × Int) := do
  let e ← F.room x
  if e ≠ 0 then pure (0, e) else do
    let c ← F.place x
    if c.2 = true then do
      let _ ← Pg.pt c.1 0
      let _ ← Pg.pt (c.1 + 1) 1
      let _ ← Pg.pt (c.1 + 2) 0
      let _ ← Pg.pt F.root x
      let v ← Pg.gt (F.root + 1)
      let _ ← Pg.pt (F.root + 1) (w64 (v + 1))
      pure (x, 0)
    else pure (0, 24)
/-- What the deferred function does. -/
def after (m : Nat) (r : Int × Int) : Pg (Int × Int) := if r.2 ≠ 0 then do let _ ← Pg.bk m; pure (0, r.2) else pure r
def make : Pg (Int × Int) := do
  let n ← F.many
  if n.2 = true then
    if n.1 = 64 then pure (0, 9) else do
      let m ← Pg.mk
      let r ← F.makeIn (n.1 + 1)
      after m r
  else pure (0, 24)
def climb (n : Int) : Nat → Int → Pg (Int × Int)
  | 0, _ => pure (0, 24)
  | k + 1, x => do
    let c ← F.place x
    if c.2 = true then do
      let up ← Pg.gt c.1
      if up = 0 then pure (x, 0) else
      if up < 1 ∨ n < up then pure (0, 24) else climb n k up
    else pure (0, 24)
def find (x : Int) : Pg (Int × Int) := do
  let e ← F.check x
  if e ≠ 0 then pure (0, e) else do
    let n ← F.many
    if n.2 = true then F.climb n.1 65 x else pure (0, 24)
def both (x y : Int) : Pg ((Int × Int) × Int) := do
  let e ← F.check x
  if e ≠ 0 then pure ((0, 0), e) else do
    let e ← F.check y
    if e ≠ 0 then pure ((0, 0), e) else do
      let a ← F.find x
      if a.2 ≠ 0 then pure ((0, 0), a.2) else do
        let b ← F.find y
        if b.2 ≠ 0 then pure ((0, 0), b.2) else pure ((a.1, b.1), 0)
def add (a n : Int) : Pg Unit := do
  let v ← Pg.gt a
  let _ ← Pg.pt a (w64 (v + n))
  pure ()
/-- The element `x` at `a` is put below the element `y` at `b`. -/
def hang (x a y b sz : Int) : Pg Unit := do
  let _ ← Pg.pt a y
  let v ← Pg.gt (F.root + 2)
  let _ ← Pg.pt (a + 2) v
  let _ ← Pg.pt (b + 1) sz
  let _ ← Pg.pt (F.root + 2) x
  let _ ← add (F.root + 1) (-1)
  pure ()
def join (x y : Int) : Pg (Bool × Int) := do
  let a ← F.place x
  if a.2 = true then do
    let v ← Pg.gt (a.1 + 1)
    let b ← F.place y
    if b.2 = true then do
      let w ← Pg.gt (b.1 + 1)
      if w < v ∨ (w = v ∧ x < y) then do
        let _ ← F.hang y b.1 x a.1 (w64 (v + w))
        pure (true, 0)
      else do
        let _ ← F.hang x a.1 y b.1 (w64 (v + w))
        pure (true, 0)
    else pure (false, 24)
  else pure (false, 24)
def union (x y : Int) : Pg (Bool × Int) := do
  let r ← F.both x y
  if r.2 ≠ 0 ∨ r.1.1 = r.1.2 then pure (false, r.2) else F.join r.1.1 r.1.2
def undo : Pg (Bool × Int) := do
  let last ← Pg.gt (F.root + 2)
  if last = 0 then pure (false, 0) else do
    let n ← F.many
    if n.2 = true ∧ 1 ≤ last ∧ last ≤ n.1 then do
      let a ← F.place last
      if a.2 = true then do
        let up ← Pg.gt a.1
        if up < 1 ∨ n.1 < up then pure (false, 24) else do
          let b ← F.place up
          if b.2 = true then do
            let v ← Pg.gt (a.1 + 1)
            let _ ← add (b.1 + 1) (w64 (0 - v))
            let _ ← Pg.pt a.1 0
            let u ← Pg.gt (a.1 + 2)
            let _ ← Pg.pt (F.root + 2) u
            let _ ← add (F.root + 1) 1
            pure (true, 0)
          else pure (false, 24)
      else pure (false, 24)
    else pure (false, 24)
def same (x y : Int) : Pg (Bool × Int) := do
  let r ← F.both x y
  pure (decide (r.2 = 0) && decide (r.1.1 = r.1.2), r.2)
def sizeOf (x : Int) : Pg (Int × Int) := do
  let r ← F.find x
  if r.2 ≠ 0 then pure (0, r.2) else do
    let a ← F.place r.1
    if a.2 = true then do
      let v ← Pg.gt (a.1 + 1)
      pure (v, 0)
    else pure (0, 24)
def sets : Pg Int := Pg.gt (F.root + 1)
end Fo
def encIB (r : Int × Bool) : Value := .tuple #[.int .i64 r.1, .bool r.2]
def encBI (r : Bool × Int) : Value := .tuple #[.bool r.1, .int .i64 r.2]
def encPI (r : (Int × Int) × Int) : Value := .tuple #[.agg #[.int .i64 r.1.1, .int .i64 r.1.2], .int .i64 r.2]
namespace Fo
open Pg
variable (F : Fo)
theorem bd_cell (x : Int) : Bd 0 (F.cell x) := by unfold Fo.cell; repeat' first | exact bd_pure _ | with_reducible refine bd_ite ?_ ?_ | with_reducible refine bd_then (bd_gt0 _) ?_ (by decide) | with_reducible refine bd_then (bd_pt _ _) ?_ (by decide) | with_reducible refine bd_then bd_mk0 ?_ (by decide) | with_reducible refine bd_then (bd_bk0 _) ?_ (by decide) | intro _
theorem bd_place (x : Int) : Bd 0 (F.place x) := by unfold Fo.place; repeat' first | with_reducible refine bd_then (F.bd_cell _) ?_ (by decide) | exact bd_pure _ | with_reducible refine bd_ite ?_ ?_ | with_reducible refine bd_then (bd_gt0 _) ?_ (by decide) | with_reducible refine bd_then (bd_pt _ _) ?_ (by decide) | with_reducible refine bd_then bd_mk0 ?_ (by decide) | with_reducible refine bd_then (bd_bk0 _) ?_ (by decide) | intro _
theorem bd_many : Bd 0 F.many := by unfold Fo.many; repeat' first | exact bd_pure _ | with_reducible refine bd_ite ?_ ?_ | with_reducible refine bd_then (bd_gt0 _) ?_ (by decide) | with_reducible refine bd_then (bd_pt _ _) ?_ (by decide) | with_reducible refine bd_then bd_mk0 ?_ (by decide) | with_reducible refine bd_then (bd_bk0 _) ?_ (by decide) | intro _
theorem bd_check (x : Int) : Bd 0 (F.check x) := by unfold Fo.check; repeat' first | exact bd_pure _ | with_reducible refine bd_ite ?_ ?_ | with_reducible refine bd_then (bd_gt0 _) ?_ (by decide) | with_reducible refine bd_then (bd_pt _ _) ?_ (by decide) | with_reducible refine bd_then bd_mk0 ?_ (by decide) | with_reducible refine bd_then (bd_bk0 _) ?_ (by decide) | intro _
theorem bd_take : Bd 3 F.take := by unfold Fo.take; repeat' first | with_reducible refine bd_then (bd_takeP _) ?_ (by decide) | exact bd_pure _ | with_reducible refine bd_ite ?_ ?_ | with_reducible refine bd_then (bd_gt0 _) ?_ (by decide) | with_reducible refine bd_then (bd_pt _ _) ?_ (by decide) | with_reducible refine bd_then bd_mk0 ?_ (by decide) | with_reducible refine bd_then (bd_bk0 _) ?_ (by decide) | intro _
theorem bd_roomN (x : Int) : Bd 4 (F.roomN x) := by unfold Fo.roomN; repeat' first | with_reducible refine bd_then (F.bd_cell _) ?_ (by decide) | with_reducible refine bd_then F.bd_take ?_ (by decide) | exact bd_pure _ | with_reducible refine bd_ite ?_ ?_ | with_reducible refine bd_then (bd_gt0 _) ?_ (by decide) | with_reducible refine bd_then (bd_pt _ _) ?_ (by decide) | with_reducible refine bd_then bd_mk0 ?_ (by decide) | with_reducible refine bd_then (bd_bk0 _) ?_ (by decide) | intro _
theorem bd_room (x : Int) : Bd 8 (F.room x) := by unfold Fo.room; repeat' first | with_reducible refine bd_then F.bd_take ?_ (by decide) | exact (F.bd_roomN x).mono (by decide) | exact bd_pure _ | with_reducible refine bd_ite ?_ ?_ | with_reducible refine bd_then (bd_gt0 _) ?_ (by decide) | with_reducible refine bd_then (bd_pt _ _) ?_ (by decide) | with_reducible refine bd_then bd_mk0 ?_ (by decide) | with_reducible refine bd_then (bd_bk0 _) ?_ (by decide) | intro _
theorem bd_makeIn (x : Int) : Bd 13 (F.makeIn x) := by unfold Fo.makeIn; repeat' first | with_reducible refine bd_then (F.bd_room _) ?_ (by decide) | with_reducible refine bd_then (F.bd_place _) ?_ (by decide) | exact bd_pure _ | with_reducible refine bd_ite ?_ ?_ | with_reducible refine bd_then (bd_gt0 _) ?_ (by decide) | with_reducible refine bd_then (bd_pt _ _) ?_ (by decide) | with_reducible refine bd_then bd_mk0 ?_ (by decide) | with_reducible refine bd_then (bd_bk0 _) ?_ (by decide) | intro _
theorem bd_after (m : Nat) (r : Int × Int) : Bd 0 (after m r) := by unfold Fo.after; repeat' first | exact bd_pure _ | with_reducible refine bd_ite ?_ ?_ | with_reducible refine bd_then (bd_gt0 _) ?_ (by decide) | with_reducible refine bd_then (bd_pt _ _) ?_ (by decide) | with_reducible refine bd_then bd_mk0 ?_ (by decide) | with_reducible refine bd_then (bd_bk0 _) ?_ (by decide) | intro _
theorem bd_make : Bd 13 F.make := by unfold Fo.make; repeat' first | with_reducible refine bd_then (F.bd_makeIn _) ?_ (by decide) | with_reducible refine bd_then F.bd_many ?_ (by decide) | exact (bd_after _ _).mono (by decide) | exact bd_pure _ | with_reducible refine bd_ite ?_ ?_ | with_reducible refine bd_then (bd_gt0 _) ?_ (by decide) | with_reducible refine bd_then (bd_pt _ _) ?_ (by decide) | with_reducible refine bd_then bd_mk0 ?_ (by decide) | with_reducible refine bd_then (bd_bk0 _) ?_ (by decide) | intro _
theorem bd_climb (n : Int) : ∀ (k : Nat) (x : Int), Bd 0 (F.climb n k x)
  | 0, _ => trivial
  | k + 1, x => by unfold Fo.climb; repeat' first | with_reducible refine bd_then (F.bd_place _) ?_ (by decide) | exact bd_climb n k _ | exact bd_pure _ | with_reducible refine bd_ite ?_ ?_ | with_reducible refine bd_then (bd_gt0 _) ?_ (by decide) | with_reducible refine bd_then (bd_pt _ _) ?_ (by decide) | with_reducible refine bd_then bd_mk0 ?_ (by decide) | with_reducible refine bd_then (bd_bk0 _) ?_ (by decide) | intro _
theorem bd_find (x : Int) : Bd 0 (F.find x) := by unfold Fo.find; repeat' first | with_reducible refine bd_then (F.bd_check _) ?_ (by decide) | with_reducible refine bd_then F.bd_many ?_ (by decide) | exact F.bd_climb _ _ _ | exact bd_pure _ | with_reducible refine bd_ite ?_ ?_ | with_reducible refine bd_then (bd_gt0 _) ?_ (by decide) | with_reducible refine bd_then (bd_pt _ _) ?_ (by decide) | with_reducible refine bd_then bd_mk0 ?_ (by decide) | with_reducible refine bd_then (bd_bk0 _) ?_ (by decide) | intro _
theorem bd_both (x y : Int) : Bd 0 (F.both x y) := by unfold Fo.both; repeat' first | with_reducible refine bd_then (F.bd_check _) ?_ (by decide) | with_reducible refine bd_then (F.bd_find _) ?_ (by decide) | exact bd_pure _ | with_reducible refine bd_ite ?_ ?_ | with_reducible refine bd_then (bd_gt0 _) ?_ (by decide) | with_reducible refine bd_then (bd_pt _ _) ?_ (by decide) | with_reducible refine bd_then bd_mk0 ?_ (by decide) | with_reducible refine bd_then (bd_bk0 _) ?_ (by decide) | intro _
theorem bd_add (a n : Int) : Bd 1 (add a n) := by unfold Fo.add; repeat' first | exact bd_pure _ | with_reducible refine bd_ite ?_ ?_ | with_reducible refine bd_then (bd_gt0 _) ?_ (by decide) | with_reducible refine bd_then (bd_pt _ _) ?_ (by decide) | with_reducible refine bd_then bd_mk0 ?_ (by decide) | with_reducible refine bd_then (bd_bk0 _) ?_ (by decide) | intro _
theorem bd_hang (x a y b sz : Int) : Bd 5 (F.hang x a y b sz) := by unfold Fo.hang; repeat' first | with_reducible refine bd_then (bd_add _ _) ?_ (by decide) | exact bd_pure _ | with_reducible refine bd_ite ?_ ?_ | with_reducible refine bd_then (bd_gt0 _) ?_ (by decide) | with_reducible refine bd_then (bd_pt _ _) ?_ (by decide) | with_reducible refine bd_then bd_mk0 ?_ (by decide) | with_reducible refine bd_then (bd_bk0 _) ?_ (by decide) | intro _
theorem bd_join (x y : Int) : Bd 5 (F.join x y) := by unfold Fo.join; repeat' first | with_reducible refine bd_then (F.bd_place _) ?_ (by decide) | with_reducible refine bd_then (F.bd_hang _ _ _ _ _) ?_ (by decide) | exact bd_pure _ | with_reducible refine bd_ite ?_ ?_ | with_reducible refine bd_then (bd_gt0 _) ?_ (by decide) | with_reducible refine bd_then (bd_pt _ _) ?_ (by decide) | with_reducible refine bd_then bd_mk0 ?_ (by decide) | with_reducible refine bd_then (bd_bk0 _) ?_ (by decide) | intro _
theorem bd_union (x y : Int) : Bd 5 (F.union x y) := by unfold Fo.union; repeat' first | with_reducible refine bd_then (F.bd_both _ _) ?_ (by decide) | exact F.bd_join _ _ | exact bd_pure _ | with_reducible refine bd_ite ?_ ?_ | with_reducible refine bd_then (bd_gt0 _) ?_ (by decide) | with_reducible refine bd_then (bd_pt _ _) ?_ (by decide) | with_reducible refine bd_then bd_mk0 ?_ (by decide) | with_reducible refine bd_then (bd_bk0 _) ?_ (by decide) | intro _
theorem bd_undo : Bd 4 F.undo := by unfold Fo.undo; repeat' first | with_reducible refine bd_then (F.bd_place _) ?_ (by decide) | with_reducible refine bd_then F.bd_many ?_ (by decide) | with_reducible refine bd_then (bd_add _ _) ?_ (by decide) | exact bd_pure _ | with_reducible refine bd_ite ?_ ?_ | with_reducible refine bd_then (bd_gt0 _) ?_ (by decide) | with_reducible refine bd_then (bd_pt _ _) ?_ (by decide) | with_reducible refine bd_then bd_mk0 ?_ (by decide) | with_reducible refine bd_then (bd_bk0 _) ?_ (by decide) | intro _
theorem bd_same (x y : Int) : Bd 0 (F.same x y) := by unfold Fo.same; repeat' first | with_reducible refine bd_then (F.bd_both _ _) ?_ (by decide) | exact bd_pure _ | with_reducible refine bd_ite ?_ ?_ | with_reducible refine bd_then (bd_gt0 _) ?_ (by decide) | with_reducible refine bd_then (bd_pt _ _) ?_ (by decide) | with_reducible refine bd_then bd_mk0 ?_ (by decide) | with_reducible refine bd_then (bd_bk0 _) ?_ (by decide) | intro _
theorem bd_sizeOf (x : Int) : Bd 0 (F.sizeOf x) := by unfold Fo.sizeOf; repeat' first | with_reducible refine bd_then (F.bd_find _) ?_ (by decide) | with_reducible refine bd_then (F.bd_place _) ?_ (by decide) | exact bd_pure _ | with_reducible refine bd_ite ?_ ?_ | with_reducible refine bd_then (bd_gt0 _) ?_ (by decide) | with_reducible refine bd_then (bd_pt _ _) ?_ (by decide) | with_reducible refine bd_then bd_mk0 ?_ (by decide) | with_reducible refine bd_then (bd_bk0 _) ?_ (by decide) | intro _
end Fo
end Sim

/- The forest as a list of joins: its latest is the head; (b, a) hangs b below a. -/
namespace Sim
open Go Go.Vc
abbrev Jn := List (Int × Int)
def par : Jn → Int → Int
  | [], _ => 0
  | (b, a) :: J, x => if x = b then a else par J x
def sz : Jn → Int → Int
  | [], _ => 1
  | (b, a) :: J, x => if x = a then sz J a + sz J b else sz J x
def rep : Jn → Int → Int
  | [], x => x
  | (b, a) :: J, x => if rep J x = b then a else rep J x
def dep : Jn → Int → Nat
  | [], _ => 0
  | (b, _) :: J, x => if rep J x = b then dep J x + 1 else dep J x
def Vd (n : Int) : Jn → Prop
  | [] => True
  | (b, a) :: J => Vd n J ∧ par J a = 0 ∧ par J b = 0 ∧ a ≠ b ∧ (1 ≤ a ∧ a ≤ n) ∧ (1 ≤ b ∧ b ≤ n) ∧ (sz J b < sz J a ∨ (sz J b = sz J a ∧ a < b))
theorem Vd.mono {n n' : Int} (h : n ≤ n') : ∀ {J : Jn}, Vd n J → Vd n' J
  | [], _ => trivial
  | (_, _) :: _, ⟨h1, h2, h3, h4, h5, h6, h7⟩ => ⟨Vd.mono h h1, h2, h3, h4, ⟨h5.1, by omega⟩, ⟨h6.1, by omega⟩, h7⟩
variable {n : Int}
theorem rep_root : ∀ {J : Jn}, Vd n J → ∀ x, par J (rep J x) = 0
  | [], _, _ => rfl
  | (b, a) :: J, ⟨h1, h2, h3, h4, _⟩, x => by
    have ih := rep_root h1 x
    simp only [rep]
    by_cases h : rep J x = b
    · rw [if_pos h]; simp only [par]; rw [if_neg h4]; exact h2
    · rw [if_neg h]; simp only [par]; rw [if_neg h]; exact ih
theorem root_rep : ∀ {J : Jn}, Vd n J → ∀ x, par J x = 0 → rep J x = x
  | [], _, _, _ => rfl
  | (b, a) :: J, ⟨h1, h2, h3, h4, h5, _⟩, x, hx => by
    simp only [par] at hx
    by_cases h : x = b
    · rw [if_pos h] at hx; omega
    · rw [if_neg h] at hx
      have ih := root_rep h1 x hx
      simp only [rep]; rw [ih, if_neg h]
theorem rep_rep {J : Jn} (h : Vd n J) (x : Int) : rep J (rep J x) = rep J x := root_rep h _ (rep_root h x)
theorem rep_in : ∀ {J : Jn}, Vd n J → ∀ x, 1 ≤ x → x ≤ n → 1 ≤ rep J x ∧ rep J x ≤ n
  | [], _, _, h1, h2 => ⟨h1, h2⟩
  | (b, a) :: J, ⟨h1, h2, h3, h4, h5, _⟩, x, g1, g2 => by
    have ih := rep_in h1 x g1 g2
    simp only [rep]
    split
    · exact h5
    · exact ih
theorem par_in : ∀ {J : Jn}, Vd n J → ∀ x, par J x = 0 ∨ (1 ≤ par J x ∧ par J x ≤ n)
  | [], _, _ => .inl rfl
  | (b, a) :: J, ⟨h1, _, _, _, h5, _⟩, x => by
    simp only [par]
    split
    · exact .inr h5
    · exact par_in h1 x
theorem dep_root : ∀ {J : Jn}, Vd n J → ∀ x, par J x = 0 → dep J x = 0
  | [], _, _, _ => rfl
  | (b, a) :: J, ⟨h1, h2, h3, h4, h5, _⟩, x, hx => by
    simp only [par] at hx
    by_cases h : x = b
    · rw [if_pos h] at hx; omega
    · rw [if_neg h] at hx
      simp only [dep]; rw [root_rep h1 x hx, if_neg h]; exact dep_root h1 x hx
theorem up_one : ∀ {J : Jn}, Vd n J → ∀ x, par J x ≠ 0 → rep J (par J x) = rep J x ∧ dep J x = dep J (par J x) + 1
  | [], _, _, h => absurd rfl h
  | (b, a) :: J, ⟨h1, h2, h3, h4, h5, _⟩, x, hx => by
    simp only [par] at hx ⊢
    by_cases h : x = b
    · subst h
      rw [if_pos rfl]
      have ha := root_rep h1 a h2
      have hb := root_rep h1 x h3
      simp only [rep, dep, ha, hb, if_true]
      rw [if_neg h4, if_neg h4, dep_root h1 x h3, dep_root h1 a h2]
      simp
    · rw [if_neg h] at hx ⊢
      obtain ⟨e1, e2⟩ := up_one h1 x hx
      simp only [rep, dep, e1]
      refine ⟨trivial, ?_⟩
      split
      · rw [e2]
      · exact e2
theorem sz_pos : ∀ (J : Jn) x, 1 ≤ sz J x
  | [], _ => Int.le_refl _
  | (b, a) :: J, x => by
    have h1 := sz_pos J a
    have h2 := sz_pos J b
    have h3 := sz_pos J x
    simp only [sz]
    split <;> omega
theorem dep_sz : ∀ {J : Jn}, Vd n J → ∀ x, (2 : Int) ^ dep J x ≤ sz J (rep J x)
  | [], _, _ => by simp [dep, sz]
  | (b, a) :: J, ⟨h1, h2, h3, h4, h5, h6, h7⟩, x => by
    have ih := dep_sz h1 x
    have hb := sz_pos J b
    simp only [rep, dep]
    by_cases h : rep J x = b
    · rw [if_pos h, if_pos h]
      simp only [sz, if_true]
      rw [h] at ih
      rw [Int.pow_succ]
      omega
    · rw [if_neg h, if_neg h]
      simp only [sz]
      split
      · rename_i h8; rw [h8] at ih; omega
      · exact ih
def eqI (x r : Int) : Bool := decide (x = r)
theorem eqI_iff {x r : Int} : eqI x r = true ↔ x = r := by simp [eqI]
theorem eqI_no {x r : Int} (h : x ≠ r) : eqI x r = false := by simp [eqI, h]
/-- How many of 1..k. -/
def ct (p : Int → Bool) : Nat → Int
  | 0 => 0
  | k + 1 => ct p k + if p (k + 1) = true then 1 else 0
theorem ct_le (p : Int → Bool) : ∀ k : Nat, 0 ≤ ct p k ∧ ct p k ≤ k
  | 0 => ⟨Int.le_refl _, Int.le_refl _⟩
  | k + 1 => by
    have := ct_le p k
    simp only [ct]
    split <;> omega
theorem ct_congr {p q : Int → Bool} : ∀ k : Nat, (∀ x : Int, 1 ≤ x → x ≤ k → p x = q x) → ct p k = ct q k
  | 0, _ => rfl
  | k + 1, h => by
    simp only [ct]
    rw [ct_congr k (fun x h1 h2 => h x h1 (by omega)), h (k + 1) (by omega) (by omega)]
theorem ct_add {p q r : Int → Bool} : ∀ k : Nat, (∀ x : Int, 1 ≤ x → x ≤ k → (p x = true ↔ (q x = true ∨ r x = true)) ∧ ¬ (q x = true ∧ r x = true)) → ct p k = ct q k + ct r k
  | 0, _ => rfl
  | k + 1, h => by
    have ih := ct_add k (fun x h1 h2 => h x h1 (by omega))
    obtain ⟨h1, h2⟩ := h (k + 1) (by omega) (by omega)
    simp only [ct, ih]
    by_cases hq : q (k + 1) = true
    · by_cases hr : r (k + 1) = true
      · exact absurd ⟨hq, hr⟩ h2
      · rw [if_pos (h1.2 (.inl hq)), if_pos hq, if_neg hr]; omega
    · by_cases hr : r (k + 1) = true
      · rw [if_pos (h1.2 (.inr hr)), if_neg hq, if_pos hr]; omega
      · rw [if_neg (fun hp => (h1.1 hp).elim hq hr), if_neg hq, if_neg hr]; omega
theorem ct_one (b : Int) : ∀ k : Nat, ct (fun x => eqI x b) k = if 1 ≤ b ∧ b ≤ k then 1 else 0
  | 0 => by simp only [ct]; rw [if_neg (by omega)]
  | k + 1 => by
    simp only [ct, ct_one b k, eqI_iff]
    by_cases h : ((k : Nat) : Int) + 1 = b
    · subst h; simp; omega
    · rw [if_neg h]
      by_cases h2 : 1 ≤ b ∧ b ≤ k
      · rw [if_pos h2, if_pos (by omega)]; rfl
      · rw [if_neg h2, if_neg (by omega)]; rfl
theorem sz_count {k : Nat} : ∀ {J : Jn}, Vd k J → ∀ r : Int, 1 ≤ r → r ≤ k → par J r = 0 → sz J r = ct (fun x => eqI (rep J x) r) k
  | [], _, r, h1, h2, _ => by show (1 : Int) = ct (fun x => eqI x r) k; rw [ct_one, if_pos ⟨h1, h2⟩]
  | (b, a) :: J, ⟨h1, h2, h3, h4, h5, h6, h7⟩, r, g1, g2, hr => by
    simp only [par] at hr
    have hrb : r ≠ b := fun e => by subst e; rw [if_pos rfl] at hr; omega
    rw [if_neg hrb] at hr
    simp only [sz, rep]
    by_cases h : r = a
    · subst h
      rw [if_pos rfl, sz_count h1 r g1 g2 h2, sz_count h1 b h6.1 h6.2 h3]
      refine (ct_add k fun x _ _ => ?_).symm
      simp only [eqI_iff]
      by_cases h8 : rep J x = b
      · rw [if_pos h8]
        exact ⟨⟨fun _ => .inr h8, fun _ => rfl⟩, fun ⟨h9, _⟩ => h4 (h9.symm.trans h8)⟩
      · rw [if_neg h8]
        exact ⟨⟨fun h => .inl h, fun h => h.resolve_right h8⟩, fun ⟨_, h9⟩ => h8 h9⟩
    · rw [if_neg h, sz_count h1 r g1 g2 hr]
      refine ct_congr k fun x _ _ => ?_
      by_cases h8 : rep J x = b
      · rw [if_pos h8]
        rw [eqI_no (fun e => hrb (e.symm.trans h8)), eqI_no (fun e => h e.symm)]
      · rw [if_neg h8]
theorem sz_le {k : Nat} {J : Jn} (h : Vd k J) {x : Int} (h1 : 1 ≤ x) (h2 : x ≤ k) : sz J (rep J x) ≤ k := by
  obtain ⟨g1, g2⟩ := rep_in h x h1 h2
  rw [sz_count h _ g1 g2 (rep_root h x)]
  exact (ct_le _ k).2
theorem dep_le {k : Nat} (hk : k ≤ 64) {J : Jn} (h : Vd k J) {x : Int} (h1 : 1 ≤ x) (h2 : x ≤ k) : dep J x ≤ 6 := by
  have h3 := dep_sz h x
  have h4 := sz_le h h1 h2
  by_cases h5 : dep J x ≤ 6
  · exact h5
  · exfalso
    have h6 : (2 : Int) ^ 7 ≤ 2 ^ dep J x := by
      have := Nat.pow_le_pow_right (n := 2) (by decide) (show 7 ≤ dep J x by omega)
      exact_mod_cast this
    have h7 : (2 : Int) ^ 7 = 128 := by decide
    omega
theorem roots_count {k : Nat} : ∀ {J : Jn}, Vd k J → ct (fun x => eqI (par J x) 0) k + J.length = k
  | [], _ => by
    have : ∀ k : Nat, ct (fun x => eqI (par [] x) 0) k = k := by
      intro k
      induction k with
      | zero => rfl
      | succ k ih => simp only [ct, ih]; simp [par, eqI]
    rw [this]; simp
  | (b, a) :: J, ⟨h1, h2, h3, h4, h5, h6, h7⟩ => by
    have ih := roots_count h1
    have h8 : ct (fun x => eqI (par J x) 0) k = ct (fun x => eqI (par ((b, a) :: J) x) 0) k + ct (fun x => eqI x b) k := by
      refine ct_add k fun x _ _ => ?_
      simp only [eqI_iff, par]
      by_cases h : x = b
      · subst h; rw [if_pos rfl]; exact ⟨⟨fun _ => .inr rfl, fun _ => h3⟩, fun ⟨h9, _⟩ => by omega⟩
      · rw [if_neg h]; exact ⟨⟨fun h9 => .inl h9, fun h9 => h9.resolve_right h⟩, fun ⟨_, h9⟩ => h h9⟩
    rw [ct_one, if_pos h6] at h8
    simp only [List.length_cons]
    omega
theorem par_out : ∀ {J : Jn}, Vd n J → ∀ x, n < x → par J x = 0
  | [], _, _, _ => rfl
  | (b, a) :: J, ⟨h1, _, _, _, _, h6, _⟩, x, hx => by simp only [par]; rw [if_neg (by omega)]; exact par_out h1 x hx
theorem sz_out : ∀ {J : Jn}, Vd n J → ∀ x, n < x → sz J x = 1
  | [], _, _, _ => rfl
  | (b, a) :: J, ⟨h1, _, _, _, h5, _, _⟩, x, hx => by simp only [sz]; rw [if_neg (by omega)]; exact sz_out h1 x hx
def lastJ : Jn → Int
  | [] => 0
  | (b, _) :: _ => b
theorem joins_lt {k : Nat} {J : Jn} (h : Vd k J) : J.length ≤ k := by
  have := roots_count h
  have := ct_le (fun x => eqI (par J x) 0) k
  omega
/-! #### The reference's lists -/
def bL (k : Nat) (J : Jn) : List Int := (List.range k).map fun (i : Nat) => par J ((i : Int) + 1)
def zL (k : Nat) (J : Jn) : List Int := (List.range k).map fun (i : Nat) => sz J ((i : Int) + 1)
def jL (J : Jn) : List Int := (J.map (·.1)).reverse
theorem bL_len (k : Nat) (J : Jn) : (bL k J).length = k := by simp [bL]
theorem zL_len (k : Nat) (J : Jn) : (zL k J).length = k := by simp [zL]
theorem jL_len (J : Jn) : (jL J).length = J.length := by simp [jL]
theorem bL_at (k : Nat) (J : Jn) {x : Int} (h1 : 1 ≤ x) (h2 : x ≤ k) : (bL k J)[(x - 1).toNat]? = some (par J x) := by
  unfold bL
  rw [List.getElem?_map, List.getElem?_range (by omega)]
  simp only [Option.map_some]
  congr 2; omega
theorem zL_at (k : Nat) (J : Jn) {x : Int} (h1 : 1 ≤ x) (h2 : x ≤ k) : (zL k J)[(x - 1).toNat]? = some (sz J x) := by
  unfold zL
  rw [List.getElem?_map, List.getElem?_range (by omega)]
  simp only [Option.map_some]
  congr 2; omega
theorem mk_ext {k : Nat} {f g : Int → Int} {p v : Int} (h : ∀ x : Int, 1 ≤ x → x ≤ k → g x = if x = p then v else f x) (hp : 1 ≤ p ∧ p ≤ k) :
    (List.range k).map (fun (i : Nat) => g ((i : Int) + 1)) = ((List.range k).map (fun (i : Nat) => f ((i : Int) + 1))).set (p - 1).toNat v := by
  apply List.ext_getElem?
  intro i
  by_cases hi : i < k
  · rw [List.getElem?_map, List.getElem?_range hi, List.getElem?_set]
    simp only [Option.map_some, List.length_map, List.length_range, List.getElem?_map, List.getElem?_range hi]
    rw [h _ (by omega) (by omega)]
    by_cases h2 : (p - 1).toNat = i
    · rw [if_pos h2, if_pos (by omega), if_pos (by omega)]
    · rw [if_neg h2, if_neg (by omega)]
  · rw [List.getElem?_eq_none (by simp; omega), List.getElem?_eq_none (by simp; omega)]
theorem bL_join {k : Nat} {b a : Int} {J : Jn} (hb : 1 ≤ b ∧ b ≤ k) : bL k ((b, a) :: J) = (bL k J).set (b - 1).toNat a := mk_ext (fun _ _ _ => rfl) hb
theorem zL_join {k : Nat} {b a : Int} {J : Jn} (ha : 1 ≤ a ∧ a ≤ k) : zL k ((b, a) :: J) = (zL k J).set (a - 1).toNat (sz J a + sz J b) := mk_ext (fun _ _ _ => rfl) ha
theorem jL_join {b a : Int} {J : Jn} : jL ((b, a) :: J) = jL J ++ [b] := by simp [jL]
theorem bL_undo {k : Nat} {b a : Int} {J : Jn} (h : Vd k ((b, a) :: J)) : bL k J = (bL k ((b, a) :: J)).set (b - 1).toNat 0 := by
  obtain ⟨h1, h2, h3, h4, h5, h6, h7⟩ := h
  refine mk_ext (fun x _ _ => ?_) h6
  simp only [par]
  by_cases e : x = b
  · subst e; rw [if_pos rfl, h3]
  · rw [if_neg e, if_neg e]
theorem zL_undo {k : Nat} {b a : Int} {J : Jn} (h : Vd k ((b, a) :: J)) : zL k J = (zL k ((b, a) :: J)).set (a - 1).toNat (sz ((b, a) :: J) a - sz ((b, a) :: J) b) := by
  obtain ⟨h1, h2, h3, h4, h5, h6, h7⟩ := h
  refine mk_ext (fun x _ _ => ?_) h5
  simp only [sz, if_true]
  rw [if_neg (Ne.symm h4)]
  by_cases e : x = a
  · subst e; rw [if_pos rfl]; omega
  · rw [if_neg e, if_neg e]
theorem bL_more {k : Nat} {J : Jn} (h : Vd k J) : bL (k + 1) J = bL k J ++ [0] := by
  unfold bL
  rw [List.range_succ, List.map_append]
  simp only [List.map_cons, List.map_nil]
  rw [par_out h _ (by omega)]
theorem zL_more {k : Nat} {J : Jn} (h : Vd k J) : zL (k + 1) J = zL k J ++ [1] := by
  unfold zL
  rw [List.range_succ, List.map_append]
  simp only [List.map_cons, List.map_nil]
  rw [sz_out h _ (by omega)]
end Sim

