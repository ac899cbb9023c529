import Derived.Test.YtilnknokgflkjaaDoorPart2
import Derived.Test.YtilnknokgflkjaaDoorKit
/- Lemmas and walks for the claims of this seat (own work): Ar6 Ar5 Ar7 Ar8 Ar9. -/
/- The plain model of package array: walk; and its walk. -/
namespace Sim
open Go Go.Vc
def wloop (f : Int → Int → Sp → Option (List Int) × Sp) (leaf : Bool) (at_ n P : Int) : Nat → Sp → List Int → Option (List Int) × Sp
  | 0, s, acc => (some acc, s)
  | k + 1, s, acc =>
    if n - (7 - (k : Int)) * P ≤ 0 then wloop f leaf at_ n P k s acc
    else if leaf then wloop f leaf at_ n P k (s.get (at_ + (7 - (k : Int)))).2 (acc ++ [(s.get (at_ + (7 - (k : Int)))).1])
    else match f (at_ + (7 - (k : Int))) (if P < n - (7 - (k : Int)) * P then P else n - (7 - (k : Int)) * P) s with
      | (none, t) => (none, t)
      | (some l, t) => wloop f leaf at_ n P k t (acc ++ l)
def Ar.walk (A : Ar) : Nat → Int → Int → Sp → Option (List Int) × Sp
  | 0, _, _, s => (none, s)
  | d + 1, cell, n, s => if (A.node s cell).2.1 then wloop (A.walk d) (decide (d = 0)) (A.node s cell).1 n (pw d) 8 (A.node s cell).2.2 [] else (none, (A.node s cell).2.2)

theorem wloop_len {f : Int → Int → Sp → Option (List Int) × Sp} {leaf : Bool} {at_ n P : Int} {B : Nat} (hf : leaf = false → ∀ c m s l t, f c m s = (some l, t) → l.length ≤ B) (hB : 1 ≤ B) :
    ∀ (k : Nat) (s : Sp) (acc l : List Int) (t : Sp), wloop f leaf at_ n P k s acc = (some l, t) → acc.length ≤ l.length ∧ l.length ≤ acc.length + k * B
  | 0, s, acc, l, t, h => by simp only [wloop, Prod.mk.injEq, Option.some.injEq] at h; obtain ⟨rfl, _⟩ := h; omega
  | k + 1, s, acc, l, t, h => by
    have e : (k + 1) * B = k * B + B := Nat.succ_mul k B
    simp only [wloop] at h
    split at h
    · have := wloop_len hf hB k _ _ _ _ h; omega
    · split at h
      · have := wloop_len hf hB k _ _ _ _ h; simp at this; omega
      · rename_i hl
        split at h
        · cases h
        · rename_i l2 t2 hf2
          have h1 := hf (by simpa using hl) _ _ _ _ _ hf2
          have := wloop_len hf hB k _ _ _ _ h; simp at this; omega
theorem walk_len (A : Ar) : ∀ (d : Nat), d ≤ 4 → ∀ (c m : Int) (s : Sp) (l : List Int) (t : Sp), A.walk d c m s = (some l, t) → l.length ≤ 8 ^ d
  | 0, _, c, m, s, l, t, h => by simp [Ar.walk] at h
  | d + 1, hd, c, m, s, l, t, h => by
    simp only [Ar.walk] at h
    split at h
    · have := (wloop_len (B := 8 ^ d) (fun _ => walk_len A d (by omega)) (Nat.one_le_pow _ _ (by decide)) 8 _ _ _ _ h).2
      simp only [List.length_nil, Nat.pow_succ] at this ⊢
      omega
    · cases h
theorem wloop_succ (f : Int → Int → Sp → Option (List Int) × Sp) (leaf : Bool) (at_ n P : Int) (k : Nat) (s : Sp) (acc : List Int) : wloop f leaf at_ n P (k + 1) s acc =
    if n - (7 - (k : Int)) * P ≤ 0 then wloop f leaf at_ n P k s acc
    else if leaf then wloop f leaf at_ n P k (s.get (at_ + (7 - (k : Int)))).2 (acc ++ [(s.get (at_ + (7 - (k : Int)))).1])
    else match f (at_ + (7 - (k : Int))) (if P < n - (7 - (k : Int)) * P then P else n - (7 - (k : Int)) * P) s with
      | (none, t) => (none, t)
      | (some l, t) => wloop f leaf at_ n P k t (acc ++ l) := rfl
theorem wloop_ne {f : Int → Int → Sp → Option (List Int) × Sp} {leaf : Bool} {at_ n P : Int} {B : Nat} (hf : leaf = false → ∀ c m s l t, 1 ≤ m → f c m s = (some l, t) → l ≠ [] ∧ l.length ≤ B) (hB : 1 ≤ B) (hP : 1 ≤ P) (hn : 1 ≤ n) (hfB : leaf = false → ∀ c m s l t, f c m s = (some l, t) → l.length ≤ B)
    (s : Sp) (l : List Int) (t : Sp) (h : wloop f leaf at_ n P 8 s [] = (some l, t)) : l ≠ [] := by
  rw [show (8 : Nat) = 7 + 1 from rfl, wloop_succ] at h
  rw [if_neg (by simp; omega)] at h
  split at h
  · have := (wloop_len hfB hB 7 _ _ _ _ h).1
    intro e; subst e; simp at this
  · rename_i hl
    split at h
    · cases h
    · rename_i l2 t2 hf2
      have h1 := hf (by simpa using hl) _ _ _ _ _ (by split; exact hP; simpa using hn) hf2
      have := (wloop_len hfB hB 7 _ _ _ _ h).1
      intro e; subst e; simp at this; exact h1.1 this
theorem walk_ne (A : Ar) : ∀ (d : Nat), d ≤ 4 → ∀ (c m : Int) (s : Sp) (l : List Int) (t : Sp), 1 ≤ m → A.walk d c m s = (some l, t) → l ≠ []
  | 0, _, c, m, s, l, t, _, h => by simp [Ar.walk] at h
  | d + 1, hd, c, m, s, l, t, hm, h => by
    simp only [Ar.walk] at h
    split at h
    · exact wloop_ne (B := 8 ^ d) (fun _ c m s l t h1 h2 => ⟨walk_ne A d (by omega) c m s l t h1 h2, walk_len A d (by omega) _ _ _ _ _ h2⟩) (Nat.one_le_pow _ _ (by decide)) (pw_pos d).1 hm (fun _ => walk_len A d (by omega)) _ _ _ h
    · cases h
theorem sm_wloop {f : Int → Int → Sp → Option (List Int) × Sp} {leaf : Bool} {at_ n P : Int} {j : Nat} (hf : ∀ c m s, Sm s j → Sm (f c m s).2 j) : ∀ (k : Nat) (s : Sp) (acc : List Int), Sm s j → Sm (wloop f leaf at_ n P k s acc).2 j
  | 0, s, acc, h => h
  | k + 1, s, acc, h => by
    simp only [wloop]
    split
    · exact sm_wloop hf k _ _ h
    · split
      · exact sm_wloop hf k _ _ (sm_get h)
      · have := hf (at_ + (7 - (k : Int))) (if P < n - (7 - (k : Int)) * P then P else n - (7 - (k : Int)) * P) s h
        split
        · rename_i t ht; rw [ht] at this; exact this
        · rename_i l t ht; rw [ht] at this; exact sm_wloop hf k _ _ this
theorem sm_walk {A : Ar} {j : Nat} : ∀ (d : Nat) (c m : Int) (s : Sp), Sm s j → Sm (A.walk d c m s).2 j
  | 0, c, m, s, h => h
  | d + 1, c, m, s, h => by
    simp only [Ar.walk]
    split
    · exact sm_wloop (sm_walk d) _ _ _ (sm_node h)
    · exact sm_node h
theorem takeL_all : ∀ (l r : List Value), takeL l.length (l ++ r) = some l
  | [], r => rfl
  | v :: l, r => by simp only [List.length_cons, List.cons_append, takeL, takeL_all l r]
end Sim

/- The walks of package array: Get, Set, Swap. -/
namespace Go.Proofs.YtilnknokgflkjaaDoor
open Go.Vc Sim
set_option maxHeartbeats 4000000

theorem aget_spec (w0 : World) (hw : PowOk w0) (p : Nat) (A : Ar) (hA : A.Ok) (s : Sp) (i : Int) (hsm : Sm s 0) : FnE PP w0 [] 18 [arrV A, spP p, .int .i64 i] [SpaceA p s]
    (.tuple #[.int .i64 (A.get s i).1, .int .i64 (A.get s i).2.1]) [SpaceA p (A.get s i).2.2] := by
  refine fn_of_run en18 fn18 rfl rfl rfl ?_ -- @@FN 18
  repeat (first | refine run_seq ?_ | refine run_block ?_ | refine run_skip ?_ | refine run_inBlock ?_)
  first | refine run_region (by kernel_rfl) ?_ | refine run_drawA PP_mixed (by kernel_rfl) (by kernel_rfl) ?_
  repeat' (refine reg_cons rfl ?_; first
        | ((with_reducible refine tag_move ?_); refine reg_pure rfl ?_)
        | ((with_reducible refine tag_assign ?_); refine reg_pure rfl ?_)
        | ((with_reducible refine tag_load ?_); first | refine reg_load_sh 0 rfl rfl rfl ?_ | refine reg_load_sh 1 rfl rfl rfl ?_ | refine reg_load_sh 2 rfl rfl rfl ?_ | refine reg_load_sh 3 rfl rfl rfl ?_ | refine reg_load_sh 4 rfl rfl rfl ?_ | refine reg_load_sh 5 rfl rfl rfl ?_ | refine reg_load_pt 0 rfl rfl rfl ?_ | refine reg_load_pt 1 rfl rfl rfl ?_ | refine reg_load_pt 2 rfl rfl rfl ?_ | refine reg_load_pt 3 rfl rfl rfl ?_ | refine reg_load_pt 4 rfl rfl rfl ?_ | refine reg_load_pt 5 rfl rfl rfl ?_)
        | ((with_reducible refine tag_extract ?_); refine reg_pure rfl ?_)
        | ((with_reducible refine tag_bin ?_); first | refine reg_neq rfl rfl ?_ | refine reg_ne_nil rfl rfl ?_)
        | ((with_reducible refine tag_box ?_); first | refine reg_box (cs := [_]) rfl (fun nb => ?_) | refine reg_box (cs := [_, _]) rfl (fun nb => ?_) | refine reg_box (cs := [_, _, _]) rfl (fun nb => ?_) | refine reg_box (cs := [_, _, _, _]) rfl (fun nb => ?_) | refine reg_box (cs := [_, _, _, _, _]) rfl (fun nb => ?_) | refine reg_box (cs := [_, _, _, _, _, _]) rfl (fun nb => ?_) | refine reg_box (cs := [_, _, _, _, _, _, _]) rfl (fun nb => ?_) | refine reg_box (cs := [_, _, _, _, _, _, _, _]) rfl (fun nb => ?_)))
  all_goals refine reg_nil ?_
  all_goals repeat (first | refine run_seq ?_ | refine run_block ?_ | refine run_skip ?_ | refine run_inBlock ?_)
  refine run_share [1] rfl ?_
  generalize hg : A.place s i = g
  have hsm2 : Sm g.2.2 0 := hg ▸ sm_place hsm
  have hG := place_spec w0 hw p A hA s i hsm
  rw [hg] at hG
  repeat' (first
    | refine run_seq ?_
    | refine run_region (by kernel_rfl) ?_
    | refine run_drawA PP_mixed (by kernel_rfl) (by kernel_rfl) ?_
    | refine run_skip ?_
    | refine run_block ?_
    | refine run_inBlock ?_
    | refine run_inLoop ?_
    | refine run_exit rfl ?_
    | (refine reg_cons rfl ?_; first
        | ((with_reducible refine tag_move ?_); refine reg_pure rfl ?_)
        | ((with_reducible refine tag_assign ?_); refine reg_pure rfl ?_)
        | ((with_reducible refine tag_load ?_); first | refine reg_load_sh 0 rfl rfl rfl ?_ | refine reg_load_sh 1 rfl rfl rfl ?_ | refine reg_load_sh 2 rfl rfl rfl ?_ | refine reg_load_sh 3 rfl rfl rfl ?_ | refine reg_load_sh 4 rfl rfl rfl ?_ | refine reg_load_sh 5 rfl rfl rfl ?_ | refine reg_load_pt 0 rfl rfl rfl ?_ | refine reg_load_pt 1 rfl rfl rfl ?_ | refine reg_load_pt 2 rfl rfl rfl ?_ | refine reg_load_pt 3 rfl rfl rfl ?_ | refine reg_load_pt 4 rfl rfl rfl ?_ | refine reg_load_pt 5 rfl rfl rfl ?_)
        | ((with_reducible refine tag_call ?_); refine reg_callE [0] hG rfl rfl rfl sub_nil rfl ?_)
        | ((with_reducible refine tag_extract ?_); refine reg_pure rfl ?_)
        | ((with_reducible refine tag_bin ?_); first | refine reg_neq rfl rfl ?_ | refine reg_ne_nil rfl rfl ?_)
        | ((with_reducible refine tag_box ?_); first | refine reg_box (cs := [_]) rfl (fun nb => ?_) | refine reg_box (cs := [_, _]) rfl (fun nb => ?_) | refine reg_box (cs := [_, _, _]) rfl (fun nb => ?_) | refine reg_box (cs := [_, _, _, _]) rfl (fun nb => ?_) | refine reg_box (cs := [_, _, _, _, _]) rfl (fun nb => ?_) | refine reg_box (cs := [_, _, _, _, _, _]) rfl (fun nb => ?_) | refine reg_box (cs := [_, _, _, _, _, _, _]) rfl (fun nb => ?_) | refine reg_box (cs := [_, _, _, _, _, _, _, _]) rfl (fun nb => ?_)))
    | refine reg_nil ?_
    | refine run_condT rfl ?_
    | refine run_condF rfl ?_)
  refine run_cond rfl (fun hE => ?_) (fun hE => ?_)
  · have e : A.get s i = (0, g.2.1, g.2.2) := by simp [Ar.get, hg, hE]
    repeat' (first
      | refine run_seq ?_
      | refine run_region (by kernel_rfl) ?_
      | refine run_drawA PP_mixed (by kernel_rfl) (by kernel_rfl) ?_
      | refine run_skip ?_
      | refine run_block ?_
      | refine run_inBlock ?_
      | refine run_inLoop ?_
      | refine run_exit rfl ?_
      | (refine reg_cons rfl ?_; first
          | ((with_reducible refine tag_move ?_); refine reg_pure rfl ?_)
          | ((with_reducible refine tag_assign ?_); refine reg_pure rfl ?_)
          | ((with_reducible refine tag_load ?_); first | refine reg_load_sh 0 rfl rfl rfl ?_ | refine reg_load_sh 1 rfl rfl rfl ?_ | refine reg_load_sh 2 rfl rfl rfl ?_ | refine reg_load_sh 3 rfl rfl rfl ?_ | refine reg_load_sh 4 rfl rfl rfl ?_ | refine reg_load_sh 5 rfl rfl rfl ?_ | refine reg_load_pt 0 rfl rfl rfl ?_ | refine reg_load_pt 1 rfl rfl rfl ?_ | refine reg_load_pt 2 rfl rfl rfl ?_ | refine reg_load_pt 3 rfl rfl rfl ?_ | refine reg_load_pt 4 rfl rfl rfl ?_ | refine reg_load_pt 5 rfl rfl rfl ?_)
          | ((with_reducible refine tag_extract ?_); refine reg_pure rfl ?_)
          | ((with_reducible refine tag_bin ?_); first | refine reg_neq rfl rfl ?_ | refine reg_ne_nil rfl rfl ?_)
          | ((with_reducible refine tag_box ?_); first | refine reg_box (cs := [_]) rfl (fun nb => ?_) | refine reg_box (cs := [_, _]) rfl (fun nb => ?_) | refine reg_box (cs := [_, _, _]) rfl (fun nb => ?_) | refine reg_box (cs := [_, _, _, _]) rfl (fun nb => ?_) | refine reg_box (cs := [_, _, _, _, _]) rfl (fun nb => ?_) | refine reg_box (cs := [_, _, _, _, _, _]) rfl (fun nb => ?_) | refine reg_box (cs := [_, _, _, _, _, _, _]) rfl (fun nb => ?_) | refine reg_box (cs := [_, _, _, _, _, _, _, _]) rfl (fun nb => ?_)))
      | refine reg_nil ?_
      | refine run_condT rfl ?_
      | refine run_condF rfl ?_)
    rw [e]
    exact ret_tmp2 rfl ⟨rfl, rfl⟩
  · have hE : g.2.1 = 0 := by omega
    have e : A.get s i = ((g.2.2.get g.1).1, 0, (g.2.2.get g.1).2) := by simp [Ar.get, hg, hE]
    repeat' (first
      | refine run_seq ?_
      | refine run_region (by kernel_rfl) ?_
      | refine run_drawA PP_mixed (by kernel_rfl) (by kernel_rfl) ?_
      | refine run_skip ?_
      | refine run_block ?_
      | refine run_inBlock ?_
      | refine run_inLoop ?_
      | refine run_exit rfl ?_
      | (refine reg_cons rfl ?_; first
          | ((with_reducible refine tag_move ?_); refine reg_pure rfl ?_)
          | ((with_reducible refine tag_assign ?_); refine reg_pure rfl ?_)
          | ((with_reducible refine tag_load ?_); first | refine reg_load_sh 0 rfl rfl rfl ?_ | refine reg_load_sh 1 rfl rfl rfl ?_ | refine reg_load_sh 2 rfl rfl rfl ?_ | refine reg_load_sh 3 rfl rfl rfl ?_ | refine reg_load_sh 4 rfl rfl rfl ?_ | refine reg_load_sh 5 rfl rfl rfl ?_ | refine reg_load_pt 0 rfl rfl rfl ?_ | refine reg_load_pt 1 rfl rfl rfl ?_ | refine reg_load_pt 2 rfl rfl rfl ?_ | refine reg_load_pt 3 rfl rfl rfl ?_ | refine reg_load_pt 4 rfl rfl rfl ?_ | refine reg_load_pt 5 rfl rfl rfl ?_)
          | ((with_reducible refine tag_call ?_); refine reg_callE [0] (getS w0 p _ _ hsm2) rfl rfl rfl sub_nil rfl ?_)
          | ((with_reducible refine tag_extract ?_); refine reg_pure rfl ?_)
          | ((with_reducible refine tag_bin ?_); first | refine reg_neq rfl rfl ?_ | refine reg_ne_nil rfl rfl ?_)
          | ((with_reducible refine tag_box ?_); first | refine reg_box (cs := [_]) rfl (fun nb => ?_) | refine reg_box (cs := [_, _]) rfl (fun nb => ?_) | refine reg_box (cs := [_, _, _]) rfl (fun nb => ?_) | refine reg_box (cs := [_, _, _, _]) rfl (fun nb => ?_) | refine reg_box (cs := [_, _, _, _, _]) rfl (fun nb => ?_) | refine reg_box (cs := [_, _, _, _, _, _]) rfl (fun nb => ?_) | refine reg_box (cs := [_, _, _, _, _, _, _]) rfl (fun nb => ?_) | refine reg_box (cs := [_, _, _, _, _, _, _, _]) rfl (fun nb => ?_)))
      | refine reg_nil ?_
      | refine run_condT rfl ?_
      | refine run_condF rfl ?_)
    rw [e]
    exact ret_tmp2 rfl ⟨rfl, rfl⟩

theorem aset_spec (w0 : World) (hw : PowOk w0) (p : Nat) (A : Ar) (hA : A.Ok) (s : Sp) (i v : Int) (hsm : Sm s 1) : FnE PP w0 [] 20 [arrV A, spP p, .int .i64 i, .int .i64 v] [SpaceA p s]
    (.tuple #[.int .i64 (A.set s i v).1, .int .i64 (A.set s i v).2.1]) [SpaceA p (A.set s i v).2.2] := by
  refine fn_of_run en20 fn20 rfl rfl rfl ?_ -- @@FN 20
  repeat (first | refine run_seq ?_ | refine run_block ?_ | refine run_skip ?_ | refine run_inBlock ?_)
  first | refine run_region (by kernel_rfl) ?_ | refine run_drawA PP_mixed (by kernel_rfl) (by kernel_rfl) ?_
  repeat' (refine reg_cons rfl ?_; first
        | ((with_reducible refine tag_move ?_); refine reg_pure rfl ?_)
        | ((with_reducible refine tag_assign ?_); refine reg_pure rfl ?_)
        | ((with_reducible refine tag_load ?_); first | refine reg_load_sh 0 rfl rfl rfl ?_ | refine reg_load_sh 1 rfl rfl rfl ?_ | refine reg_load_sh 2 rfl rfl rfl ?_ | refine reg_load_sh 3 rfl rfl rfl ?_ | refine reg_load_sh 4 rfl rfl rfl ?_ | refine reg_load_sh 5 rfl rfl rfl ?_ | refine reg_load_pt 0 rfl rfl rfl ?_ | refine reg_load_pt 1 rfl rfl rfl ?_ | refine reg_load_pt 2 rfl rfl rfl ?_ | refine reg_load_pt 3 rfl rfl rfl ?_ | refine reg_load_pt 4 rfl rfl rfl ?_ | refine reg_load_pt 5 rfl rfl rfl ?_)
        | ((with_reducible refine tag_extract ?_); refine reg_pure rfl ?_)
        | ((with_reducible refine tag_bin ?_); first | refine reg_neq rfl rfl ?_ | refine reg_ne_nil rfl rfl ?_)
        | ((with_reducible refine tag_box ?_); first | refine reg_box (cs := [_]) rfl (fun nb => ?_) | refine reg_box (cs := [_, _]) rfl (fun nb => ?_) | refine reg_box (cs := [_, _, _]) rfl (fun nb => ?_) | refine reg_box (cs := [_, _, _, _]) rfl (fun nb => ?_) | refine reg_box (cs := [_, _, _, _, _]) rfl (fun nb => ?_) | refine reg_box (cs := [_, _, _, _, _, _]) rfl (fun nb => ?_) | refine reg_box (cs := [_, _, _, _, _, _, _]) rfl (fun nb => ?_) | refine reg_box (cs := [_, _, _, _, _, _, _, _]) rfl (fun nb => ?_)))
  all_goals refine reg_nil ?_
  all_goals repeat (first | refine run_seq ?_ | refine run_block ?_ | refine run_skip ?_ | refine run_inBlock ?_)
  refine run_share [1] rfl ?_
  generalize hg : A.place s i = g
  have hsm2 : Sm g.2.2 1 := hg ▸ sm_place hsm
  have hG := place_spec w0 hw p A hA s i (hsm.mono (by decide))
  rw [hg] at hG
  repeat' (first
    | refine run_seq ?_
    | refine run_region (by kernel_rfl) ?_
    | refine run_drawA PP_mixed (by kernel_rfl) (by kernel_rfl) ?_
    | refine run_skip ?_
    | refine run_block ?_
    | refine run_inBlock ?_
    | refine run_inLoop ?_
    | refine run_exit rfl ?_
    | (refine reg_cons rfl ?_; first
        | ((with_reducible refine tag_move ?_); refine reg_pure rfl ?_)
        | ((with_reducible refine tag_assign ?_); refine reg_pure rfl ?_)
        | ((with_reducible refine tag_load ?_); first | refine reg_load_sh 0 rfl rfl rfl ?_ | refine reg_load_sh 1 rfl rfl rfl ?_ | refine reg_load_sh 2 rfl rfl rfl ?_ | refine reg_load_sh 3 rfl rfl rfl ?_ | refine reg_load_sh 4 rfl rfl rfl ?_ | refine reg_load_sh 5 rfl rfl rfl ?_ | refine reg_load_pt 0 rfl rfl rfl ?_ | refine reg_load_pt 1 rfl rfl rfl ?_ | refine reg_load_pt 2 rfl rfl rfl ?_ | refine reg_load_pt 3 rfl rfl rfl ?_ | refine reg_load_pt 4 rfl rfl rfl ?_ | refine reg_load_pt 5 rfl rfl rfl ?_)
        | ((with_reducible refine tag_call ?_); refine reg_callE [0] hG rfl rfl rfl sub_nil rfl ?_)
        | ((with_reducible refine tag_extract ?_); refine reg_pure rfl ?_)
        | ((with_reducible refine tag_bin ?_); first | refine reg_neq rfl rfl ?_ | refine reg_ne_nil rfl rfl ?_)
        | ((with_reducible refine tag_box ?_); first | refine reg_box (cs := [_]) rfl (fun nb => ?_) | refine reg_box (cs := [_, _]) rfl (fun nb => ?_) | refine reg_box (cs := [_, _, _]) rfl (fun nb => ?_) | refine reg_box (cs := [_, _, _, _]) rfl (fun nb => ?_) | refine reg_box (cs := [_, _, _, _, _]) rfl (fun nb => ?_) | refine reg_box (cs := [_, _, _, _, _, _]) rfl (fun nb => ?_) | refine reg_box (cs := [_, _, _, _, _, _, _]) rfl (fun nb => ?_) | refine reg_box (cs := [_, _, _, _, _, _, _, _]) rfl (fun nb => ?_)))
    | refine reg_nil ?_
    | refine run_condT rfl ?_
    | refine run_condF rfl ?_)
  refine run_cond rfl (fun hE => ?_) (fun hE => ?_)
  · have e : A.set s i v = (0, g.2.1, g.2.2) := by simp [Ar.set, hg, hE]
    repeat' (first
      | refine run_seq ?_
      | refine run_region (by kernel_rfl) ?_
      | refine run_drawA PP_mixed (by kernel_rfl) (by kernel_rfl) ?_
      | refine run_skip ?_
      | refine run_block ?_
      | refine run_inBlock ?_
      | refine run_inLoop ?_
      | refine run_exit rfl ?_
      | (refine reg_cons rfl ?_; first
          | ((with_reducible refine tag_move ?_); refine reg_pure rfl ?_)
          | ((with_reducible refine tag_assign ?_); refine reg_pure rfl ?_)
          | ((with_reducible refine tag_load ?_); first | refine reg_load_sh 0 rfl rfl rfl ?_ | refine reg_load_sh 1 rfl rfl rfl ?_ | refine reg_load_sh 2 rfl rfl rfl ?_ | refine reg_load_sh 3 rfl rfl rfl ?_ | refine reg_load_sh 4 rfl rfl rfl ?_ | refine reg_load_sh 5 rfl rfl rfl ?_ | refine reg_load_pt 0 rfl rfl rfl ?_ | refine reg_load_pt 1 rfl rfl rfl ?_ | refine reg_load_pt 2 rfl rfl rfl ?_ | refine reg_load_pt 3 rfl rfl rfl ?_ | refine reg_load_pt 4 rfl rfl rfl ?_ | refine reg_load_pt 5 rfl rfl rfl ?_)
          | ((with_reducible refine tag_extract ?_); refine reg_pure rfl ?_)
          | ((with_reducible refine tag_bin ?_); first | refine reg_neq rfl rfl ?_ | refine reg_ne_nil rfl rfl ?_)
          | ((with_reducible refine tag_box ?_); first | refine reg_box (cs := [_]) rfl (fun nb => ?_) | refine reg_box (cs := [_, _]) rfl (fun nb => ?_) | refine reg_box (cs := [_, _, _]) rfl (fun nb => ?_) | refine reg_box (cs := [_, _, _, _]) rfl (fun nb => ?_) | refine reg_box (cs := [_, _, _, _, _]) rfl (fun nb => ?_) | refine reg_box (cs := [_, _, _, _, _, _]) rfl (fun nb => ?_) | refine reg_box (cs := [_, _, _, _, _, _, _]) rfl (fun nb => ?_) | refine reg_box (cs := [_, _, _, _, _, _, _, _]) rfl (fun nb => ?_)))
      | refine reg_nil ?_
      | refine run_condT rfl ?_
      | refine run_condF rfl ?_)
    rw [e]
    exact ret_tmp2 rfl ⟨rfl, rfl⟩
  · have hE : g.2.1 = 0 := by omega
    have e : A.set s i v = ((g.2.2.get g.1).1, 0, (g.2.2.get g.1).2.put g.1 v) := by simp [Ar.set, hg, hE]
    repeat' (first
      | refine run_seq ?_
      | refine run_region (by kernel_rfl) ?_
      | refine run_drawA PP_mixed (by kernel_rfl) (by kernel_rfl) ?_
      | refine run_skip ?_
      | refine run_block ?_
      | refine run_inBlock ?_
      | refine run_inLoop ?_
      | refine run_exit rfl ?_
      | (refine reg_cons rfl ?_; first
          | ((with_reducible refine tag_move ?_); refine reg_pure rfl ?_)
          | ((with_reducible refine tag_assign ?_); refine reg_pure rfl ?_)
          | ((with_reducible refine tag_load ?_); first | refine reg_load_sh 0 rfl rfl rfl ?_ | refine reg_load_sh 1 rfl rfl rfl ?_ | refine reg_load_sh 2 rfl rfl rfl ?_ | refine reg_load_sh 3 rfl rfl rfl ?_ | refine reg_load_sh 4 rfl rfl rfl ?_ | refine reg_load_sh 5 rfl rfl rfl ?_ | refine reg_load_pt 0 rfl rfl rfl ?_ | refine reg_load_pt 1 rfl rfl rfl ?_ | refine reg_load_pt 2 rfl rfl rfl ?_ | refine reg_load_pt 3 rfl rfl rfl ?_ | refine reg_load_pt 4 rfl rfl rfl ?_ | refine reg_load_pt 5 rfl rfl rfl ?_)
          | ((with_reducible refine tag_call ?_); first | refine reg_callE [0] (getS w0 p _ _ (hsm2.mono (by decide))) rfl rfl rfl sub_nil rfl ?_ | refine reg_callE [0] (putS w0 p _ _ _ (sm_get (hsm2.mono (by decide)))) rfl rfl rfl sub_nil rfl ?_)
          | ((with_reducible refine tag_extract ?_); refine reg_pure rfl ?_)
          | ((with_reducible refine tag_bin ?_); first | refine reg_neq rfl rfl ?_ | refine reg_ne_nil rfl rfl ?_)
          | ((with_reducible refine tag_box ?_); first | refine reg_box (cs := [_]) rfl (fun nb => ?_) | refine reg_box (cs := [_, _]) rfl (fun nb => ?_) | refine reg_box (cs := [_, _, _]) rfl (fun nb => ?_) | refine reg_box (cs := [_, _, _, _]) rfl (fun nb => ?_) | refine reg_box (cs := [_, _, _, _, _]) rfl (fun nb => ?_) | refine reg_box (cs := [_, _, _, _, _, _]) rfl (fun nb => ?_) | refine reg_box (cs := [_, _, _, _, _, _, _]) rfl (fun nb => ?_) | refine reg_box (cs := [_, _, _, _, _, _, _, _]) rfl (fun nb => ?_)))
      | refine reg_nil ?_
      | refine run_condT rfl ?_
      | refine run_condF rfl ?_)
    rw [e]
    exact ret_tmp2 rfl ⟨rfl, rfl⟩

theorem aswap_spec (w0 : World) (hw : PowOk w0) (p : Nat) (A : Ar) (hA : A.Ok) (s : Sp) (i j : Int) (hsm : Sm s 2) : FnE PP w0 [] 17 [arrV A, spP p, .int .i64 i, .int .i64 j] [SpaceA p s]
    (.int .i64 (A.swap s i j).1) [SpaceA p (A.swap s i j).2] := by
  obtain ⟨_, h1, h2⟩ := id hA
  refine fn_of_run en17 fn17 rfl rfl rfl ?_ -- @@FN 17
  repeat (first | refine run_seq ?_ | refine run_block ?_ | refine run_skip ?_ | refine run_inBlock ?_)
  first | refine run_region (by kernel_rfl) ?_ | refine run_drawA PP_mixed (by kernel_rfl) (by kernel_rfl) ?_
  repeat' (refine reg_cons rfl ?_; first
        | ((with_reducible refine tag_guard ?_); first | refine reg_guard_in rfl ?_ | refine reg_guard_out rfl ?_ | refine reg_guard_none rfl ?_ | refine reg_guard rfl rfl (fun _ => ?_) (fun _ => ?_))
        | ((with_reducible refine tag_move ?_); refine reg_pure rfl ?_)
        | ((with_reducible refine tag_assign ?_); refine reg_pure rfl ?_)
        | ((with_reducible refine tag_load ?_); first | refine reg_load_sh 0 rfl rfl rfl ?_ | refine reg_load_sh 1 rfl rfl rfl ?_ | refine reg_load_sh 2 rfl rfl rfl ?_ | refine reg_load_sh 3 rfl rfl rfl ?_ | refine reg_load_sh 4 rfl rfl rfl ?_ | refine reg_load_sh 5 rfl rfl rfl ?_ | refine reg_load_pt 0 rfl rfl rfl ?_ | refine reg_load_pt 1 rfl rfl rfl ?_ | refine reg_load_pt 2 rfl rfl rfl ?_ | refine reg_load_pt 3 rfl rfl rfl ?_ | refine reg_load_pt 4 rfl rfl rfl ?_ | refine reg_load_pt 5 rfl rfl rfl ?_)
        | ((with_reducible refine tag_field ?_); refine reg_field rfl ?_)
        | ((with_reducible refine tag_extract ?_); refine reg_pure rfl ?_)
        | ((with_reducible refine tag_bin ?_); first | refine reg_add64 rfl rfl (by omega) ?_ | refine reg_neq rfl rfl ?_ | refine reg_lss rfl rfl ?_ | refine reg_geq rfl rfl ?_ | refine reg_ne_nil rfl rfl ?_)
        | ((with_reducible refine tag_pick ?_); first | refine reg_pickT rfl ?_ | refine reg_pickF rfl ?_ | refine reg_pick rfl rfl rfl ?_)
        | ((with_reducible refine tag_box ?_); first | refine reg_box (cs := [_]) rfl (fun nb => ?_) | refine reg_box (cs := [_, _]) rfl (fun nb => ?_) | refine reg_box (cs := [_, _, _]) rfl (fun nb => ?_) | refine reg_box (cs := [_, _, _, _]) rfl (fun nb => ?_) | refine reg_box (cs := [_, _, _, _, _]) rfl (fun nb => ?_) | refine reg_box (cs := [_, _, _, _, _, _]) rfl (fun nb => ?_) | refine reg_box (cs := [_, _, _, _, _, _, _]) rfl (fun nb => ?_) | refine reg_box (cs := [_, _, _, _, _, _, _, _]) rfl (fun nb => ?_)))
  all_goals refine reg_nil ?_
  all_goals repeat (first | refine run_seq ?_ | refine run_block ?_ | refine run_skip ?_ | refine run_inBlock ?_)
  refine run_share [1] rfl ?_
  generalize hg : s.get (A.root + 1) = g
  have hsm2 : Sm g.2 2 := hg ▸ sm_get hsm
  have hG := getS w0 p s (A.root + 1) (hsm.mono (by decide))
  rw [hg] at hG
  repeat (first | refine run_seq ?_ | refine run_block ?_ | refine run_skip ?_ | refine run_inBlock ?_)
  first | refine run_region (by kernel_rfl) ?_ | refine run_drawA PP_mixed (by kernel_rfl) (by kernel_rfl) ?_
  repeat' (refine reg_cons rfl ?_; first
        | ((with_reducible refine tag_guard ?_); first | refine reg_guard_in rfl ?_ | refine reg_guard_out rfl ?_ | refine reg_guard_none rfl ?_ | refine reg_guard rfl rfl (fun _ => ?_) (fun _ => ?_))
        | ((with_reducible refine tag_move ?_); refine reg_pure rfl ?_)
        | ((with_reducible refine tag_assign ?_); refine reg_pure rfl ?_)
        | ((with_reducible refine tag_load ?_); first | refine reg_load_sh 0 rfl rfl rfl ?_ | refine reg_load_sh 1 rfl rfl rfl ?_ | refine reg_load_sh 2 rfl rfl rfl ?_ | refine reg_load_sh 3 rfl rfl rfl ?_ | refine reg_load_sh 4 rfl rfl rfl ?_ | refine reg_load_sh 5 rfl rfl rfl ?_ | refine reg_load_pt 0 rfl rfl rfl ?_ | refine reg_load_pt 1 rfl rfl rfl ?_ | refine reg_load_pt 2 rfl rfl rfl ?_ | refine reg_load_pt 3 rfl rfl rfl ?_ | refine reg_load_pt 4 rfl rfl rfl ?_ | refine reg_load_pt 5 rfl rfl rfl ?_)
        | ((with_reducible refine tag_call ?_); refine reg_callE [0] hG rfl rfl rfl sub_nil rfl ?_)
        | ((with_reducible refine tag_field ?_); refine reg_field rfl ?_)
        | ((with_reducible refine tag_extract ?_); refine reg_pure rfl ?_)
        | ((with_reducible refine tag_bin ?_); first | refine reg_add64 rfl rfl (by omega) ?_ | refine reg_neq rfl rfl ?_ | refine reg_lss rfl rfl ?_ | refine reg_geq rfl rfl ?_ | refine reg_ne_nil rfl rfl ?_)
        | ((with_reducible refine tag_pick ?_); first | refine reg_pickT rfl ?_ | refine reg_pickF rfl ?_ | refine reg_pick rfl rfl rfl ?_)
        | ((with_reducible refine tag_box ?_); first | refine reg_box (cs := [_]) rfl (fun nb => ?_) | refine reg_box (cs := [_, _]) rfl (fun nb => ?_) | refine reg_box (cs := [_, _, _]) rfl (fun nb => ?_) | refine reg_box (cs := [_, _, _, _]) rfl (fun nb => ?_) | refine reg_box (cs := [_, _, _, _, _]) rfl (fun nb => ?_) | refine reg_box (cs := [_, _, _, _, _, _]) rfl (fun nb => ?_) | refine reg_box (cs := [_, _, _, _, _, _, _]) rfl (fun nb => ?_) | refine reg_box (cs := [_, _, _, _, _, _, _, _]) rfl (fun nb => ?_)))
  all_goals refine reg_nil ?_
  all_goals repeat (first | refine run_seq ?_ | refine run_block ?_ | refine run_skip ?_ | refine run_inBlock ?_)
  refine run_slots [(1, spP p), (2, .int .i64 i), (3, .int .i64 j), (4, .pointer (some ⟨nb, 0, none⟩)), (9, .int .i64 g.1)] ⟨rfl, rfl, rfl, rfl, rfl, trivial⟩ (fun junk => ?_)
  repeat' (first
    | refine run_seq ?_
    | refine run_region (by kernel_rfl) ?_
    | refine run_drawA PP_mixed (by kernel_rfl) (by kernel_rfl) ?_
    | refine run_skip ?_
    | refine run_block ?_
    | refine run_inBlock ?_
    | refine run_inLoop ?_
    | refine run_exit rfl ?_
    | (refine reg_cons rfl ?_; first
        | ((with_reducible refine tag_guard ?_); first | refine reg_guard_in rfl ?_ | refine reg_guard_out rfl ?_ | refine reg_guard_none rfl ?_ | refine reg_guard rfl rfl (fun _ => ?_) (fun _ => ?_))
        | ((with_reducible refine tag_move ?_); refine reg_pure rfl ?_)
        | ((with_reducible refine tag_assign ?_); refine reg_pure rfl ?_)
        | ((with_reducible refine tag_load ?_); first | refine reg_load_sh 0 rfl rfl rfl ?_ | refine reg_load_sh 1 rfl rfl rfl ?_ | refine reg_load_sh 2 rfl rfl rfl ?_ | refine reg_load_sh 3 rfl rfl rfl ?_ | refine reg_load_sh 4 rfl rfl rfl ?_ | refine reg_load_sh 5 rfl rfl rfl ?_ | refine reg_load_pt 0 rfl rfl rfl ?_ | refine reg_load_pt 1 rfl rfl rfl ?_ | refine reg_load_pt 2 rfl rfl rfl ?_ | refine reg_load_pt 3 rfl rfl rfl ?_ | refine reg_load_pt 4 rfl rfl rfl ?_ | refine reg_load_pt 5 rfl rfl rfl ?_)
        | ((with_reducible refine tag_field ?_); refine reg_field rfl ?_)
        | ((with_reducible refine tag_extract ?_); refine reg_pure rfl ?_)
        | ((with_reducible refine tag_bin ?_); first | refine reg_add64 rfl rfl (by omega) ?_ | refine reg_neq rfl rfl ?_ | refine reg_lss rfl rfl ?_ | refine reg_geq rfl rfl ?_ | refine reg_ne_nil rfl rfl ?_)
        | ((with_reducible refine tag_pick ?_); first | refine reg_pickT rfl ?_ | refine reg_pickF rfl ?_ | refine reg_pick rfl rfl rfl ?_)
        | ((with_reducible refine tag_box ?_); first | refine reg_box (cs := [_]) rfl (fun nb => ?_) | refine reg_box (cs := [_, _]) rfl (fun nb => ?_) | refine reg_box (cs := [_, _, _]) rfl (fun nb => ?_) | refine reg_box (cs := [_, _, _, _]) rfl (fun nb => ?_) | refine reg_box (cs := [_, _, _, _, _]) rfl (fun nb => ?_) | refine reg_box (cs := [_, _, _, _, _, _]) rfl (fun nb => ?_) | refine reg_box (cs := [_, _, _, _, _, _, _]) rfl (fun nb => ?_) | refine reg_box (cs := [_, _, _, _, _, _, _, _]) rfl (fun nb => ?_)))
    | refine reg_nil ?_
    | refine run_condT rfl ?_
    | refine run_condF rfl ?_
    | refine run_cond rfl (fun _ => ?_) (fun _ => ?_)
    | refine run_condV rfl (fun _ => ?_) (fun _ => ?_))
  all_goals first | (exact ret_tmp1 rfl (by rw [show A.swap s i j = (3, g.2) by { simp only [Ar.swap, hg]; rw [if_pos (by omega)] }]; exact ⟨rfl, rfl⟩)) | skip
  have hr : ¬ (i < 0 ∨ j < 0 ∨ g.1 ≤ i ∨ g.1 ≤ j) := by omega
  generalize hx : A.place g.2 i = x
  have hsm3 : Sm x.2.2 2 := hx ▸ sm_place hsm2
  have hX := place_spec w0 hw p A hA g.2 i (hsm2.mono (by decide))
  rw [hx] at hX
  repeat' (first
    | refine run_seq ?_
    | refine run_region (by kernel_rfl) ?_
    | refine run_drawA PP_mixed (by kernel_rfl) (by kernel_rfl) ?_
    | refine run_skip ?_
    | refine run_block ?_
    | refine run_inBlock ?_
    | refine run_inLoop ?_
    | refine run_exit rfl ?_
    | (refine reg_cons rfl ?_; first
        | ((with_reducible refine tag_guard ?_); first | refine reg_guard_in rfl ?_ | refine reg_guard_out rfl ?_ | refine reg_guard_none rfl ?_ | refine reg_guard rfl rfl (fun _ => ?_) (fun _ => ?_))
        | ((with_reducible refine tag_move ?_); refine reg_pure rfl ?_)
        | ((with_reducible refine tag_assign ?_); refine reg_pure rfl ?_)
        | ((with_reducible refine tag_load ?_); first | refine reg_load_sh 0 rfl rfl rfl ?_ | refine reg_load_sh 1 rfl rfl rfl ?_ | refine reg_load_sh 2 rfl rfl rfl ?_ | refine reg_load_sh 3 rfl rfl rfl ?_ | refine reg_load_sh 4 rfl rfl rfl ?_ | refine reg_load_sh 5 rfl rfl rfl ?_ | refine reg_load_pt 0 rfl rfl rfl ?_ | refine reg_load_pt 1 rfl rfl rfl ?_ | refine reg_load_pt 2 rfl rfl rfl ?_ | refine reg_load_pt 3 rfl rfl rfl ?_ | refine reg_load_pt 4 rfl rfl rfl ?_ | refine reg_load_pt 5 rfl rfl rfl ?_)
        | ((with_reducible refine tag_call ?_); refine reg_callE [0] hX rfl rfl rfl sub_nil rfl ?_)
        | ((with_reducible refine tag_field ?_); refine reg_field rfl ?_)
        | ((with_reducible refine tag_extract ?_); refine reg_pure rfl ?_)
        | ((with_reducible refine tag_bin ?_); first | refine reg_add64 rfl rfl (by omega) ?_ | refine reg_neq rfl rfl ?_ | refine reg_lss rfl rfl ?_ | refine reg_geq rfl rfl ?_ | refine reg_ne_nil rfl rfl ?_)
        | ((with_reducible refine tag_pick ?_); first | refine reg_pickT rfl ?_ | refine reg_pickF rfl ?_ | refine reg_pick rfl rfl rfl ?_)
        | ((with_reducible refine tag_box ?_); first | refine reg_box (cs := [_]) rfl (fun nb => ?_) | refine reg_box (cs := [_, _]) rfl (fun nb => ?_) | refine reg_box (cs := [_, _, _]) rfl (fun nb => ?_) | refine reg_box (cs := [_, _, _, _]) rfl (fun nb => ?_) | refine reg_box (cs := [_, _, _, _, _]) rfl (fun nb => ?_) | refine reg_box (cs := [_, _, _, _, _, _]) rfl (fun nb => ?_) | refine reg_box (cs := [_, _, _, _, _, _, _]) rfl (fun nb => ?_) | refine reg_box (cs := [_, _, _, _, _, _, _, _]) rfl (fun nb => ?_)))
    | refine reg_nil ?_
    | refine run_condT rfl ?_
    | refine run_condF rfl ?_)
  refine run_cond rfl (fun hE => ?_) (fun hE => ?_)
  · repeat' (first
      | refine run_seq ?_
      | refine run_region (by kernel_rfl) ?_
      | refine run_drawA PP_mixed (by kernel_rfl) (by kernel_rfl) ?_
      | refine run_skip ?_
      | refine run_block ?_
      | refine run_inBlock ?_
      | refine run_inLoop ?_
      | refine run_exit rfl ?_
      | (refine reg_cons rfl ?_; first
          | ((with_reducible refine tag_guard ?_); first | refine reg_guard_in rfl ?_ | refine reg_guard_out rfl ?_ | refine reg_guard_none rfl ?_ | refine reg_guard rfl rfl (fun _ => ?_) (fun _ => ?_))
          | ((with_reducible refine tag_move ?_); refine reg_pure rfl ?_)
          | ((with_reducible refine tag_assign ?_); refine reg_pure rfl ?_)
          | ((with_reducible refine tag_load ?_); first | refine reg_load_sh 0 rfl rfl rfl ?_ | refine reg_load_sh 1 rfl rfl rfl ?_ | refine reg_load_sh 2 rfl rfl rfl ?_ | refine reg_load_sh 3 rfl rfl rfl ?_ | refine reg_load_sh 4 rfl rfl rfl ?_ | refine reg_load_sh 5 rfl rfl rfl ?_ | refine reg_load_pt 0 rfl rfl rfl ?_ | refine reg_load_pt 1 rfl rfl rfl ?_ | refine reg_load_pt 2 rfl rfl rfl ?_ | refine reg_load_pt 3 rfl rfl rfl ?_ | refine reg_load_pt 4 rfl rfl rfl ?_ | refine reg_load_pt 5 rfl rfl rfl ?_)
          | ((with_reducible refine tag_field ?_); refine reg_field rfl ?_)
          | ((with_reducible refine tag_extract ?_); refine reg_pure rfl ?_)
          | ((with_reducible refine tag_bin ?_); first | refine reg_add64 rfl rfl (by omega) ?_ | refine reg_neq rfl rfl ?_ | refine reg_lss rfl rfl ?_ | refine reg_geq rfl rfl ?_ | refine reg_ne_nil rfl rfl ?_)
          | ((with_reducible refine tag_pick ?_); first | refine reg_pickT rfl ?_ | refine reg_pickF rfl ?_ | refine reg_pick rfl rfl rfl ?_)
          | ((with_reducible refine tag_box ?_); first | refine reg_box (cs := [_]) rfl (fun nb => ?_) | refine reg_box (cs := [_, _]) rfl (fun nb => ?_) | refine reg_box (cs := [_, _, _]) rfl (fun nb => ?_) | refine reg_box (cs := [_, _, _, _]) rfl (fun nb => ?_) | refine reg_box (cs := [_, _, _, _, _]) rfl (fun nb => ?_) | refine reg_box (cs := [_, _, _, _, _, _]) rfl (fun nb => ?_) | refine reg_box (cs := [_, _, _, _, _, _, _]) rfl (fun nb => ?_) | refine reg_box (cs := [_, _, _, _, _, _, _, _]) rfl (fun nb => ?_)))
      | refine reg_nil ?_
      | refine run_condT rfl ?_
      | refine run_condF rfl ?_)
    refine ret_tmp1 rfl ?_
    have e : A.swap s i j = (x.2.1, x.2.2) := by simp only [Ar.swap, hg]; rw [if_neg hr, hx, if_neg hE]
    rw [e]; exact ⟨rfl, rfl⟩
  · have hE : x.2.1 = 0 := by omega
    generalize hy : A.place x.2.2 j = y
    have hsm4 : Sm y.2.2 2 := hy ▸ sm_place hsm3
    have hY := place_spec w0 hw p A hA x.2.2 j (hsm3.mono (by decide))
    rw [hy] at hY
    repeat (first | refine run_seq ?_ | refine run_block ?_ | refine run_skip ?_ | refine run_inBlock ?_ | refine run_inLoop ?_)
    refine run_slots [(1, spP p), (3, .int .i64 j), (4, .pointer (some ⟨nb, 0, none⟩)), (10, .int .i64 x.1)] ⟨rfl, rfl, rfl, rfl, trivial⟩ (fun junk => ?_)
    repeat' (first
      | refine run_seq ?_
      | refine run_region (by kernel_rfl) ?_
      | refine run_drawA PP_mixed (by kernel_rfl) (by kernel_rfl) ?_
      | refine run_skip ?_
      | refine run_block ?_
      | refine run_inBlock ?_
      | refine run_inLoop ?_
      | refine run_exit rfl ?_
      | (refine reg_cons rfl ?_; first
          | ((with_reducible refine tag_guard ?_); first | refine reg_guard_in rfl ?_ | refine reg_guard_out rfl ?_ | refine reg_guard_none rfl ?_ | refine reg_guard rfl rfl (fun _ => ?_) (fun _ => ?_))
          | ((with_reducible refine tag_move ?_); refine reg_pure rfl ?_)
          | ((with_reducible refine tag_assign ?_); refine reg_pure rfl ?_)
          | ((with_reducible refine tag_load ?_); first | refine reg_load_sh 0 rfl rfl rfl ?_ | refine reg_load_sh 1 rfl rfl rfl ?_ | refine reg_load_sh 2 rfl rfl rfl ?_ | refine reg_load_sh 3 rfl rfl rfl ?_ | refine reg_load_sh 4 rfl rfl rfl ?_ | refine reg_load_sh 5 rfl rfl rfl ?_ | refine reg_load_pt 0 rfl rfl rfl ?_ | refine reg_load_pt 1 rfl rfl rfl ?_ | refine reg_load_pt 2 rfl rfl rfl ?_ | refine reg_load_pt 3 rfl rfl rfl ?_ | refine reg_load_pt 4 rfl rfl rfl ?_ | refine reg_load_pt 5 rfl rfl rfl ?_)
          | ((with_reducible refine tag_call ?_); refine reg_callE [0] hY rfl rfl rfl sub_nil rfl ?_)
          | ((with_reducible refine tag_field ?_); refine reg_field rfl ?_)
          | ((with_reducible refine tag_extract ?_); refine reg_pure rfl ?_)
          | ((with_reducible refine tag_bin ?_); first | refine reg_add64 rfl rfl (by omega) ?_ | refine reg_neq rfl rfl ?_ | refine reg_lss rfl rfl ?_ | refine reg_geq rfl rfl ?_ | refine reg_ne_nil rfl rfl ?_)
          | ((with_reducible refine tag_pick ?_); first | refine reg_pickT rfl ?_ | refine reg_pickF rfl ?_ | refine reg_pick rfl rfl rfl ?_)
          | ((with_reducible refine tag_box ?_); first | refine reg_box (cs := [_]) rfl (fun nb => ?_) | refine reg_box (cs := [_, _]) rfl (fun nb => ?_) | refine reg_box (cs := [_, _, _]) rfl (fun nb => ?_) | refine reg_box (cs := [_, _, _, _]) rfl (fun nb => ?_) | refine reg_box (cs := [_, _, _, _, _]) rfl (fun nb => ?_) | refine reg_box (cs := [_, _, _, _, _, _]) rfl (fun nb => ?_) | refine reg_box (cs := [_, _, _, _, _, _, _]) rfl (fun nb => ?_) | refine reg_box (cs := [_, _, _, _, _, _, _, _]) rfl (fun nb => ?_)))
      | refine reg_nil ?_
      | refine run_condT rfl ?_
      | refine run_condF rfl ?_)
    refine run_cond rfl (fun hE2 => ?_) (fun hE2 => ?_)
    · repeat' (first
        | refine run_seq ?_
        | refine run_region (by kernel_rfl) ?_
        | refine run_drawA PP_mixed (by kernel_rfl) (by kernel_rfl) ?_
        | refine run_skip ?_
        | refine run_block ?_
        | refine run_inBlock ?_
        | refine run_inLoop ?_
        | refine run_exit rfl ?_
        | (refine reg_cons rfl ?_; first
            | ((with_reducible refine tag_guard ?_); first | refine reg_guard_in rfl ?_ | refine reg_guard_out rfl ?_ | refine reg_guard_none rfl ?_ | refine reg_guard rfl rfl (fun _ => ?_) (fun _ => ?_))
            | ((with_reducible refine tag_move ?_); refine reg_pure rfl ?_)
            | ((with_reducible refine tag_assign ?_); refine reg_pure rfl ?_)
            | ((with_reducible refine tag_load ?_); first | refine reg_load_sh 0 rfl rfl rfl ?_ | refine reg_load_sh 1 rfl rfl rfl ?_ | refine reg_load_sh 2 rfl rfl rfl ?_ | refine reg_load_sh 3 rfl rfl rfl ?_ | refine reg_load_sh 4 rfl rfl rfl ?_ | refine reg_load_sh 5 rfl rfl rfl ?_ | refine reg_load_pt 0 rfl rfl rfl ?_ | refine reg_load_pt 1 rfl rfl rfl ?_ | refine reg_load_pt 2 rfl rfl rfl ?_ | refine reg_load_pt 3 rfl rfl rfl ?_ | refine reg_load_pt 4 rfl rfl rfl ?_ | refine reg_load_pt 5 rfl rfl rfl ?_)
            | ((with_reducible refine tag_field ?_); refine reg_field rfl ?_)
            | ((with_reducible refine tag_extract ?_); refine reg_pure rfl ?_)
            | ((with_reducible refine tag_bin ?_); first | refine reg_add64 rfl rfl (by omega) ?_ | refine reg_neq rfl rfl ?_ | refine reg_lss rfl rfl ?_ | refine reg_geq rfl rfl ?_ | refine reg_ne_nil rfl rfl ?_)
            | ((with_reducible refine tag_pick ?_); first | refine reg_pickT rfl ?_ | refine reg_pickF rfl ?_ | refine reg_pick rfl rfl rfl ?_)
            | ((with_reducible refine tag_box ?_); first | refine reg_box (cs := [_]) rfl (fun nb => ?_) | refine reg_box (cs := [_, _]) rfl (fun nb => ?_) | refine reg_box (cs := [_, _, _]) rfl (fun nb => ?_) | refine reg_box (cs := [_, _, _, _]) rfl (fun nb => ?_) | refine reg_box (cs := [_, _, _, _, _]) rfl (fun nb => ?_) | refine reg_box (cs := [_, _, _, _, _, _]) rfl (fun nb => ?_) | refine reg_box (cs := [_, _, _, _, _, _, _]) rfl (fun nb => ?_) | refine reg_box (cs := [_, _, _, _, _, _, _, _]) rfl (fun nb => ?_)))
        | refine reg_nil ?_
        | refine run_condT rfl ?_
        | refine run_condF rfl ?_)
      refine ret_tmp1 rfl ?_
      have e : A.swap s i j = (y.2.1, y.2.2) := by simp only [Ar.swap, hg]; rw [if_neg hr, hx, if_pos hE, hy, if_neg hE2]
      rw [e]; exact ⟨rfl, rfl⟩
    · have hE2 : y.2.1 = 0 := by omega
      repeat (first | refine run_seq ?_ | refine run_block ?_ | refine run_skip ?_ | refine run_inBlock ?_ | refine run_inLoop ?_)
      refine run_slots [(1, spP p), (12, .int .i64 y.1), (10, .int .i64 x.1)] ⟨rfl, rfl, rfl, trivial⟩ (fun junk => ?_)
      have e : A.swap s i j = (0, ((((y.2.2.get x.1).2.get y.1).2.put x.1 ((y.2.2.get x.1).2.get y.1).1).put y.1 (y.2.2.get x.1).1)) := by simp only [Ar.swap, hg]; rw [if_neg hr, hx, if_pos hE, hy, if_pos hE2]
      rw [e]
      have hsm := hsm4
      repeat' (first
        | refine run_seq ?_
        | refine run_region (by kernel_rfl) ?_
        | refine run_drawA PP_mixed (by kernel_rfl) (by kernel_rfl) ?_
        | refine run_skip ?_
        | refine run_block ?_
        | refine run_inBlock ?_
        | refine run_inLoop ?_
        | refine run_exit rfl ?_
        | (refine reg_cons rfl ?_; first
            | ((with_reducible refine tag_guard ?_); first | refine reg_guard_in rfl ?_ | refine reg_guard_out rfl ?_ | refine reg_guard_none rfl ?_ | refine reg_guard rfl rfl (fun _ => ?_) (fun _ => ?_))
            | ((with_reducible refine tag_move ?_); refine reg_pure rfl ?_)
            | ((with_reducible refine tag_assign ?_); refine reg_pure rfl ?_)
            | ((with_reducible refine tag_load ?_); first | refine reg_load_sh 0 rfl rfl rfl ?_ | refine reg_load_sh 1 rfl rfl rfl ?_ | refine reg_load_sh 2 rfl rfl rfl ?_ | refine reg_load_sh 3 rfl rfl rfl ?_ | refine reg_load_sh 4 rfl rfl rfl ?_ | refine reg_load_sh 5 rfl rfl rfl ?_ | refine reg_load_pt 0 rfl rfl rfl ?_ | refine reg_load_pt 1 rfl rfl rfl ?_ | refine reg_load_pt 2 rfl rfl rfl ?_ | refine reg_load_pt 3 rfl rfl rfl ?_ | refine reg_load_pt 4 rfl rfl rfl ?_ | refine reg_load_pt 5 rfl rfl rfl ?_)
            | ((with_reducible refine tag_call ?_); first | refine reg_callE [0] (getS w0 p _ _ (by first | exact hsm.mono (by decide) | (repeat (first | refine sm_get ?_ | refine sm_put ?_ | refine sm_node ?_ | refine sm_take ?_ | refine sm_many ?_ | refine sm_way ?_ | refine sm_poolTake ?_ | refine sm_give ?_ | refine sm_place ?_)); exact hsm.mono (by decide))) rfl rfl rfl sub_nil rfl ?_ | refine reg_callE [0] (putS w0 p _ _ _ (by first | exact hsm.mono (by decide) | (repeat (first | refine sm_get ?_ | refine sm_put ?_ | refine sm_node ?_ | refine sm_take ?_ | refine sm_many ?_ | refine sm_way ?_ | refine sm_poolTake ?_ | refine sm_give ?_ | refine sm_place ?_)); exact hsm.mono (by decide))) rfl rfl rfl sub_nil rfl ?_)
            | ((with_reducible refine tag_field ?_); refine reg_field rfl ?_)
            | ((with_reducible refine tag_extract ?_); refine reg_pure rfl ?_)
            | ((with_reducible refine tag_bin ?_); first | refine reg_add64 rfl rfl (by omega) ?_ | refine reg_neq rfl rfl ?_ | refine reg_lss rfl rfl ?_ | refine reg_geq rfl rfl ?_ | refine reg_ne_nil rfl rfl ?_)
            | ((with_reducible refine tag_pick ?_); first | refine reg_pickT rfl ?_ | refine reg_pickF rfl ?_ | refine reg_pick rfl rfl rfl ?_)
            | ((with_reducible refine tag_box ?_); first | refine reg_box (cs := [_]) rfl (fun nb => ?_) | refine reg_box (cs := [_, _]) rfl (fun nb => ?_) | refine reg_box (cs := [_, _, _]) rfl (fun nb => ?_) | refine reg_box (cs := [_, _, _, _]) rfl (fun nb => ?_) | refine reg_box (cs := [_, _, _, _, _]) rfl (fun nb => ?_) | refine reg_box (cs := [_, _, _, _, _, _]) rfl (fun nb => ?_) | refine reg_box (cs := [_, _, _, _, _, _, _]) rfl (fun nb => ?_) | refine reg_box (cs := [_, _, _, _, _, _, _, _]) rfl (fun nb => ?_)))
        | refine reg_nil ?_
        | refine run_condT rfl ?_
        | refine run_condF rfl ?_)
      exact ret_tmp1 rfl ⟨rfl, rfl⟩
end Go.Proofs.YtilnknokgflkjaaDoor

/- The walk of package array's walk. -/
namespace Go.Proofs.YtilnknokgflkjaaDoor
open Go.Vc Sim
set_option maxHeartbeats 4000000

def walkR (p : Nat) (r : Option (List Int) × Sp) (v : Value) (Γ : List Asn) : Prop :=
  match r.1 with
  | some l => ∃ a cap, v = .tuple #[.slice a l.length cap, .bool true] ∧ Γ = [SpaceA p r.2, SlA 2 1 a l.length cap (intL l)]
  | none => v = .tuple #[.slice none 0 0, .bool false] ∧ Γ = [SpaceA p r.2]

theorem intL_append (l r : List Int) : intL (l ++ r) = intL l ++ intL r := by simp [intL]
theorem intL_length (l : List Int) : (intL l).length = l.length := by simp [intL]
theorem intL_one : ∀ (l : List Int), allOne (intL l) = true
  | [] => rfl
  | _ :: l => intL_one l

def BdL (n k : Nat) : Prop := n + k * 4096 ≤ 32768
theorem bdL_start : BdL 0 8 := by unfold BdL; omega
theorem bdL_small {n k : Nat} (h : BdL n (k + 1)) : n + 4096 ≤ 32768 := by unfold BdL at h; omega
theorem bdL_step {n k i : Nat} (h : BdL n (k + 1)) (hi : i ≤ 4096) : BdL (n + i) k := by unfold BdL at *; omega
def WalkS (w0 : World) (p : Nat) (A : Ar) (d : Nat) : Prop := ∀ (dI : Int) (_ : dI = (d : Int)) (c m : Int) (_ : 0 ≤ c ∧ c ≤ 5000) (_ : 1 ≤ m ∧ m ≤ 4096) (s : Sp) (_ : Sm s 0),
    Vc.Fn PP w0 [] 39 [arrV A, spP p, .int .i64 c, .int .i64 dI, .int .i64 m] [SpaceA p s] (walkR p (A.walk d c m s))

theorem walk_step (w0 : World) (hw : PowOk w0) (p : Nat) (A : Ar) (hA : A.Ok) (d : Nat) (hd : d + 1 ≤ 4) (hrec : d ≠ 0 → WalkS w0 p A d) : WalkS w0 p A (d + 1) := by
  intro dI hdI c m hc hm s hsm
  subst hdI
  obtain ⟨T, fr, hw2⟩ := id hw
  obtain ⟨_, h1, h2⟩ := id hA
  have hb := A.node_bd s c
  generalize hg : A.node s c = g at hb
  have hsm2 : Sm g.2.2 0 := hg ▸ sm_node hsm
  have hG := anode_spec w0 p A hA s c hsm
  rw [hg] at hG
  refine fn_of_run en39 fn39 rfl rfl rfl ?_ -- @@FN 39
  repeat (first | refine run_seq ?_ | refine run_block ?_ | refine run_skip ?_ | refine run_inBlock ?_)
  first | refine run_region (by kernel_rfl) ?_ | refine run_drawA PP_mixed (by kernel_rfl) (by kernel_rfl) ?_
  repeat' (refine reg_cons rfl ?_; first
        | ((with_reducible refine tag_move ?_); refine reg_pure rfl ?_)
        | ((with_reducible refine tag_assign ?_); refine reg_pure rfl ?_)
        | ((with_reducible refine tag_load ?_); first | refine reg_load_sh 0 rfl rfl rfl ?_ | refine reg_load_sh 1 rfl rfl rfl ?_ | refine reg_load_sh 2 rfl rfl rfl ?_ | refine reg_load_sh 3 rfl rfl rfl ?_ | refine reg_load_sh 4 rfl rfl rfl ?_ | refine reg_load_sh 5 rfl rfl rfl ?_ | refine reg_load_pt 0 rfl rfl rfl ?_ | refine reg_load_pt 1 rfl rfl rfl ?_ | refine reg_load_pt 2 rfl rfl rfl ?_ | refine reg_load_pt 3 rfl rfl rfl ?_ | refine reg_load_pt 4 rfl rfl rfl ?_ | refine reg_load_pt 5 rfl rfl rfl ?_)
        | ((with_reducible refine tag_call ?_); refine reg_min rfl rfl ?_)
        | ((with_reducible refine tag_extract ?_); refine reg_pure rfl ?_)
        | ((with_reducible refine tag_bin ?_); first | refine reg_add64 rfl rfl (by omega) ?_ | refine reg_sub64 rfl rfl (by omega) ?_ | refine reg_mul64 rfl rfl (by omega) ?_ | refine reg_eql rfl rfl ?_ | refine reg_lss rfl rfl ?_ | refine reg_leq rfl rfl ?_ | refine reg_eq_nil rfl rfl ?_ | refine reg_eqB rfl rfl ?_)
        | ((with_reducible refine tag_un ?_); first | refine reg_not rfl ?_ | refine reg_notB rfl ?_)
        | ((with_reducible refine tag_index ?_); first | refine reg_index_slice rfl rfl (by omega) ?_ | refine reg_index_array rfl rfl (by omega) ?_)
        | ((with_reducible refine tag_box ?_); first | refine reg_box (cs := [_]) rfl (fun nb => ?_) | refine reg_box (cs := [_, _]) rfl (fun nb => ?_) | refine reg_box (cs := [_, _, _]) rfl (fun nb => ?_) | refine reg_box (cs := [_, _, _, _]) rfl (fun nb => ?_) | refine reg_box (cs := [_, _, _, _, _]) rfl (fun nb => ?_) | refine reg_box (cs := [_, _, _, _, _, _]) rfl (fun nb => ?_) | refine reg_box (cs := [_, _, _, _, _, _, _]) rfl (fun nb => ?_) | refine reg_box (cs := [_, _, _, _, _, _, _, _]) rfl (fun nb => ?_)))
  all_goals refine reg_nil ?_
  all_goals repeat (first | refine run_seq ?_ | refine run_block ?_ | refine run_skip ?_ | refine run_inBlock ?_)
  refine run_share [1] rfl ?_
  repeat' (first
    | refine run_seq ?_
    | refine run_region (by kernel_rfl) ?_
    | refine run_drawA PP_mixed (by kernel_rfl) (by kernel_rfl) ?_
    | refine run_skip ?_
    | refine run_block ?_
    | refine run_inBlock ?_
    | refine run_inLoop ?_
    | refine run_exit rfl ?_
    | (refine reg_cons rfl ?_; first
        | ((with_reducible refine tag_move ?_); refine reg_pure rfl ?_)
        | ((with_reducible refine tag_assign ?_); refine reg_pure rfl ?_)
        | ((with_reducible refine tag_load ?_); first | refine reg_load_sh 0 rfl rfl rfl ?_ | refine reg_load_sh 1 rfl rfl rfl ?_ | refine reg_load_sh 2 rfl rfl rfl ?_ | refine reg_load_sh 3 rfl rfl rfl ?_ | refine reg_load_sh 4 rfl rfl rfl ?_ | refine reg_load_sh 5 rfl rfl rfl ?_ | refine reg_load_pt 0 rfl rfl rfl ?_ | refine reg_load_pt 1 rfl rfl rfl ?_ | refine reg_load_pt 2 rfl rfl rfl ?_ | refine reg_load_pt 3 rfl rfl rfl ?_ | refine reg_load_pt 4 rfl rfl rfl ?_ | refine reg_load_pt 5 rfl rfl rfl ?_)
        | ((with_reducible refine tag_call ?_); first | refine reg_callE [0] hG rfl rfl rfl sub_nil rfl ?_ | refine reg_min rfl rfl ?_)
        | ((with_reducible refine tag_extract ?_); refine reg_pure rfl ?_)
        | ((with_reducible refine tag_bin ?_); first | refine reg_add64 rfl rfl (by omega) ?_ | refine reg_sub64 rfl rfl (by omega) ?_ | refine reg_mul64 rfl rfl (by omega) ?_ | refine reg_eql rfl rfl ?_ | refine reg_lss rfl rfl ?_ | refine reg_leq rfl rfl ?_ | refine reg_eq_nil rfl rfl ?_ | refine reg_eqB rfl rfl ?_)
        | ((with_reducible refine tag_un ?_); first | refine reg_not rfl ?_ | refine reg_notB rfl ?_)
        | ((with_reducible refine tag_index ?_); first | refine reg_index_slice rfl rfl (by omega) ?_ | refine reg_index_array rfl rfl (by omega) ?_)
        | ((with_reducible refine tag_box ?_); first | refine reg_box (cs := [_]) rfl (fun nb => ?_) | refine reg_box (cs := [_, _]) rfl (fun nb => ?_) | refine reg_box (cs := [_, _, _]) rfl (fun nb => ?_) | refine reg_box (cs := [_, _, _, _]) rfl (fun nb => ?_) | refine reg_box (cs := [_, _, _, _, _]) rfl (fun nb => ?_) | refine reg_box (cs := [_, _, _, _, _, _]) rfl (fun nb => ?_) | refine reg_box (cs := [_, _, _, _, _, _, _]) rfl (fun nb => ?_) | refine reg_box (cs := [_, _, _, _, _, _, _, _]) rfl (fun nb => ?_)))
    | refine reg_nil ?_
    | refine run_condT rfl ?_
    | refine run_condF rfl ?_)
  refine run_condV rfl (fun hE => ?_) (fun hE => ?_)
  · have hE : g.2.1 = false := by simpa using hE
    repeat' (first
      | refine run_seq ?_
      | refine run_region (by kernel_rfl) ?_
      | refine run_drawA PP_mixed (by kernel_rfl) (by kernel_rfl) ?_
      | refine run_skip ?_
      | refine run_block ?_
      | refine run_inBlock ?_
      | refine run_inLoop ?_
      | refine run_exit rfl ?_
      | (refine reg_cons rfl ?_; first
          | ((with_reducible refine tag_move ?_); refine reg_pure rfl ?_)
          | ((with_reducible refine tag_assign ?_); refine reg_pure rfl ?_)
          | ((with_reducible refine tag_load ?_); first | refine reg_load_sh 0 rfl rfl rfl ?_ | refine reg_load_sh 1 rfl rfl rfl ?_ | refine reg_load_sh 2 rfl rfl rfl ?_ | refine reg_load_sh 3 rfl rfl rfl ?_ | refine reg_load_sh 4 rfl rfl rfl ?_ | refine reg_load_sh 5 rfl rfl rfl ?_ | refine reg_load_pt 0 rfl rfl rfl ?_ | refine reg_load_pt 1 rfl rfl rfl ?_ | refine reg_load_pt 2 rfl rfl rfl ?_ | refine reg_load_pt 3 rfl rfl rfl ?_ | refine reg_load_pt 4 rfl rfl rfl ?_ | refine reg_load_pt 5 rfl rfl rfl ?_)
          | ((with_reducible refine tag_call ?_); refine reg_min rfl rfl ?_)
          | ((with_reducible refine tag_extract ?_); refine reg_pure rfl ?_)
          | ((with_reducible refine tag_bin ?_); first | refine reg_add64 rfl rfl (by omega) ?_ | refine reg_sub64 rfl rfl (by omega) ?_ | refine reg_mul64 rfl rfl (by omega) ?_ | refine reg_eql rfl rfl ?_ | refine reg_lss rfl rfl ?_ | refine reg_leq rfl rfl ?_ | refine reg_eq_nil rfl rfl ?_ | refine reg_eqB rfl rfl ?_)
          | ((with_reducible refine tag_un ?_); first | refine reg_not rfl ?_ | refine reg_notB rfl ?_)
          | ((with_reducible refine tag_index ?_); first | refine reg_index_slice rfl rfl (by omega) ?_ | refine reg_index_array rfl rfl (by omega) ?_)
          | ((with_reducible refine tag_box ?_); first | refine reg_box (cs := [_]) rfl (fun nb => ?_) | refine reg_box (cs := [_, _]) rfl (fun nb => ?_) | refine reg_box (cs := [_, _, _]) rfl (fun nb => ?_) | refine reg_box (cs := [_, _, _, _]) rfl (fun nb => ?_) | refine reg_box (cs := [_, _, _, _, _]) rfl (fun nb => ?_) | refine reg_box (cs := [_, _, _, _, _, _]) rfl (fun nb => ?_) | refine reg_box (cs := [_, _, _, _, _, _, _]) rfl (fun nb => ?_) | refine reg_box (cs := [_, _, _, _, _, _, _, _]) rfl (fun nb => ?_)))
      | refine reg_nil ?_
      | refine run_condT rfl ?_
      | refine run_condF rfl ?_)
    have e : A.walk (d + 1) c m s = (none, g.2.2) := by simp [Ar.walk, hg, hE]
    rw [e]
    exact ret_tmp2 rfl ⟨rfl, rfl⟩
  have hE : g.2.1 = true := by simpa using hE
  have e : A.walk (d + 1) c m s = wloop (A.walk d) (decide (d = 0)) g.1 m (pw d) 8 g.2.2 [] := by
    have : A.walk (d + 1) c m s = if (A.node s c).2.1 then wloop (A.walk d) (decide (d = 0)) (A.node s c).1 m (pw d) 8 (A.node s c).2.2 [] else (none, (A.node s c).2.2) := rfl
    rw [this, hg, if_pos hE]
  rw [e]
  have hP := pw_pos d
  generalize hPd : pw d = P at hP
  have hlenB : ∀ c m s l t, A.walk d c m s = (some l, t) → l.length ≤ 4096 := fun c m s l t h => by
    have h1 := walk_len A d (by omega) c m s l t h
    have h2 : 8 ^ d ≤ 8 ^ 4 := Nat.pow_le_pow_right (by decide) (by omega)
    omega
  repeat (first | refine run_seq ?_ | refine run_block ?_ | refine run_skip ?_ | refine run_inBlock ?_)
  first | refine run_region (by kernel_rfl) ?_ | refine run_drawA PP_mixed (by kernel_rfl) (by kernel_rfl) ?_
  repeat' (refine reg_cons rfl ?_; first
        | ((with_reducible refine tag_move ?_); refine reg_pure rfl ?_)
        | ((with_reducible refine tag_assign ?_); refine reg_pure rfl ?_)
        | ((with_reducible refine tag_load ?_); first | refine reg_load_sh 0 rfl rfl rfl ?_ | refine reg_load_sh 1 rfl rfl rfl ?_ | refine reg_load_sh 2 rfl rfl rfl ?_ | refine reg_load_sh 3 rfl rfl rfl ?_ | refine reg_load_sh 4 rfl rfl rfl ?_ | refine reg_load_sh 5 rfl rfl rfl ?_ | refine reg_load_pt 0 rfl rfl rfl ?_ | refine reg_load_pt 1 rfl rfl rfl ?_ | refine reg_load_pt 2 rfl rfl rfl ?_ | refine reg_load_pt 3 rfl rfl rfl ?_ | refine reg_load_pt 4 rfl rfl rfl ?_ | refine reg_load_pt 5 rfl rfl rfl ?_)
        | ((with_reducible refine tag_call ?_); refine reg_min rfl rfl ?_)
        | ((with_reducible refine tag_extract ?_); refine reg_pure rfl ?_)
        | ((with_reducible refine tag_bin ?_); first | refine reg_add64 rfl rfl (by omega) ?_ | refine reg_sub64 rfl rfl (by omega) ?_ | refine reg_mul64 rfl rfl (by omega) ?_ | refine reg_eql rfl rfl ?_ | refine reg_lss rfl rfl ?_ | refine reg_leq rfl rfl ?_ | refine reg_eq_nil rfl rfl ?_ | refine reg_eqB rfl rfl ?_)
        | ((with_reducible refine tag_un ?_); first | refine reg_not rfl ?_ | refine reg_notB rfl ?_)
        | ((with_reducible refine tag_index ?_); first | refine reg_index_slice rfl rfl (by omega) ?_ | refine reg_index_array rfl rfl (by omega) ?_)
        | ((with_reducible refine tag_box ?_); first | refine reg_box (cs := [_]) rfl (fun nb => ?_) | refine reg_box (cs := [_, _]) rfl (fun nb => ?_) | refine reg_box (cs := [_, _, _]) rfl (fun nb => ?_) | refine reg_box (cs := [_, _, _, _]) rfl (fun nb => ?_) | refine reg_box (cs := [_, _, _, _, _]) rfl (fun nb => ?_) | refine reg_box (cs := [_, _, _, _, _, _]) rfl (fun nb => ?_) | refine reg_box (cs := [_, _, _, _, _, _, _]) rfl (fun nb => ?_) | refine reg_box (cs := [_, _, _, _, _, _, _, _]) rfl (fun nb => ?_)))
  all_goals refine reg_nil ?_
  all_goals repeat (first | refine run_seq ?_ | refine run_block ?_ | refine run_skip ?_ | refine run_inBlock ?_)
  repeat (first | refine run_seq ?_ | refine run_block ?_ | refine run_skip ?_ | refine run_inBlock ?_)
  first | refine run_region (by kernel_rfl) ?_ | refine run_drawA PP_mixed (by kernel_rfl) (by kernel_rfl) ?_
  repeat' (refine reg_cons rfl ?_; first
        | ((with_reducible refine tag_move ?_); refine reg_pure rfl ?_)
        | ((with_reducible refine tag_assign ?_); refine reg_pure rfl ?_)
        | ((with_reducible refine tag_load ?_); first | refine reg_load_sh 0 rfl rfl rfl ?_ | refine reg_load_sh 1 rfl rfl rfl ?_ | refine reg_load_sh 2 rfl rfl rfl ?_ | refine reg_load_sh 3 rfl rfl rfl ?_ | refine reg_load_sh 4 rfl rfl rfl ?_ | refine reg_load_sh 5 rfl rfl rfl ?_ | refine reg_load_pt 0 rfl rfl rfl ?_ | refine reg_load_pt 1 rfl rfl rfl ?_ | refine reg_load_pt 2 rfl rfl rfl ?_ | refine reg_load_pt 3 rfl rfl rfl ?_ | refine reg_load_pt 4 rfl rfl rfl ?_ | refine reg_load_pt 5 rfl rfl rfl ?_)
        | ((with_reducible refine tag_call ?_); refine reg_min rfl rfl ?_)
        | ((with_reducible refine tag_extract ?_); refine reg_pure rfl ?_)
        | ((with_reducible refine tag_bin ?_); first | refine reg_add64 rfl rfl (by omega) ?_ | refine reg_sub64 rfl rfl (by omega) ?_ | refine reg_mul64 rfl rfl (by omega) ?_ | refine reg_eql rfl rfl ?_ | refine reg_lss rfl rfl ?_ | refine reg_leq rfl rfl ?_ | refine reg_eq_nil rfl rfl ?_ | refine reg_eqB rfl rfl ?_)
        | ((with_reducible refine tag_un ?_); first | refine reg_not rfl ?_ | refine reg_notB rfl ?_)
        | ((with_reducible refine tag_index ?_); first | refine reg_index_slice rfl rfl (by omega) ?_ | refine reg_index_array rfl rfl (by omega) ?_)
        | ((with_reducible refine tag_box ?_); first | refine reg_box (cs := [_]) rfl (fun nb => ?_) | refine reg_box (cs := [_, _]) rfl (fun nb => ?_) | refine reg_box (cs := [_, _, _]) rfl (fun nb => ?_) | refine reg_box (cs := [_, _, _, _]) rfl (fun nb => ?_) | refine reg_box (cs := [_, _, _, _, _]) rfl (fun nb => ?_) | refine reg_box (cs := [_, _, _, _, _, _]) rfl (fun nb => ?_) | refine reg_box (cs := [_, _, _, _, _, _, _]) rfl (fun nb => ?_) | refine reg_box (cs := [_, _, _, _, _, _, _, _]) rfl (fun nb => ?_)))
  all_goals refine reg_nil ?_
  all_goals repeat (first | refine run_seq ?_ | refine run_block ?_ | refine run_skip ?_ | refine run_inBlock ?_)
  refine run_nilslice 2 1 ?_
  refine run_loop (S := Nat × Sp × List Int × Option Addr × Nat)
    (fun st => [(1, spP p), (3, .int .i64 ((d + 1 : Nat) : Int)), (4, .int .i64 m), (5, .pointer (some ⟨nb, 0, none⟩)), (12, .int .i64 g.1), (14, .slice st.2.2.2.1 st.2.2.1.length st.2.2.2.2), (28, .int .i64 (8 - (st.1 : Int)))])
    (fun st Γ => Γ = [SpaceA p st.2.1, SlA 2 1 st.2.2.2.1 st.2.2.1.length st.2.2.2.2 (intL st.2.2.1)] ∧ st.1 ≤ 8 ∧ BdL st.2.2.1.length st.1 ∧ Sm st.2.1 0 ∧ wloop (A.walk d) (decide (d = 0)) g.1 m P st.1 st.2.1 st.2.2.1 = wloop (A.walk d) (decide (d = 0)) g.1 m P 8 g.2.2 [])
    (fun st => st.1) (8, g.2.2, [], none, 0) ⟨rfl, rfl, rfl, rfl, rfl, rfl, rfl, trivial⟩ ⟨rfl, Nat.le_refl _, bdL_start, hsm2, rfl⟩ ?_
  rintro ⟨k, s', acc, a, cap⟩ Γ junk ⟨hΓ, hk, hl, hsm3, he⟩
  dsimp only at hΓ hk hl hsm3 he ⊢
  subst hΓ
  rw [← he]
  cases k with
  | zero =>
    repeat' (first
      | refine run_seq ?_
      | refine run_region (by kernel_rfl) ?_
      | refine run_drawA PP_mixed (by kernel_rfl) (by kernel_rfl) ?_
      | refine run_skip ?_
      | refine run_block ?_
      | refine run_inBlock ?_
      | refine run_inLoop ?_
      | refine run_exit rfl ?_
      | (refine reg_cons rfl ?_; first
          | ((with_reducible refine tag_move ?_); refine reg_pure rfl ?_)
          | ((with_reducible refine tag_assign ?_); refine reg_pure rfl ?_)
          | ((with_reducible refine tag_load ?_); first | refine reg_load_sh 0 rfl rfl rfl ?_ | refine reg_load_sh 1 rfl rfl rfl ?_ | refine reg_load_sh 2 rfl rfl rfl ?_ | refine reg_load_sh 3 rfl rfl rfl ?_ | refine reg_load_sh 4 rfl rfl rfl ?_ | refine reg_load_sh 5 rfl rfl rfl ?_ | refine reg_load_pt 0 rfl rfl rfl ?_ | refine reg_load_pt 1 rfl rfl rfl ?_ | refine reg_load_pt 2 rfl rfl rfl ?_ | refine reg_load_pt 3 rfl rfl rfl ?_ | refine reg_load_pt 4 rfl rfl rfl ?_ | refine reg_load_pt 5 rfl rfl rfl ?_)
          | ((with_reducible refine tag_call ?_); refine reg_min rfl rfl ?_)
          | ((with_reducible refine tag_extract ?_); refine reg_pure rfl ?_)
          | ((with_reducible refine tag_bin ?_); first | refine reg_add64 rfl rfl (by omega) ?_ | refine reg_sub64 rfl rfl (by omega) ?_ | refine reg_mul64 rfl rfl (by omega) ?_ | refine reg_eql rfl rfl ?_ | refine reg_lss rfl rfl ?_ | refine reg_leq rfl rfl ?_ | refine reg_eq_nil rfl rfl ?_ | refine reg_eqB rfl rfl ?_)
          | ((with_reducible refine tag_un ?_); first | refine reg_not rfl ?_ | refine reg_notB rfl ?_)
          | ((with_reducible refine tag_index ?_); first | refine reg_index_slice rfl rfl (by omega) ?_ | refine reg_index_array rfl rfl (by omega) ?_)
          | ((with_reducible refine tag_box ?_); first | refine reg_box (cs := [_]) rfl (fun nb => ?_) | refine reg_box (cs := [_, _]) rfl (fun nb => ?_) | refine reg_box (cs := [_, _, _]) rfl (fun nb => ?_) | refine reg_box (cs := [_, _, _, _]) rfl (fun nb => ?_) | refine reg_box (cs := [_, _, _, _, _]) rfl (fun nb => ?_) | refine reg_box (cs := [_, _, _, _, _, _]) rfl (fun nb => ?_) | refine reg_box (cs := [_, _, _, _, _, _, _]) rfl (fun nb => ?_) | refine reg_box (cs := [_, _, _, _, _, _, _, _]) rfl (fun nb => ?_)))
      | refine reg_nil ?_
      | refine run_condT rfl ?_
      | refine run_condF rfl ?_)
    refine cut_exit rfl rfl ?_
    repeat' (first
      | refine run_seq ?_
      | refine run_region (by kernel_rfl) ?_
      | refine run_drawA PP_mixed (by kernel_rfl) (by kernel_rfl) ?_
      | refine run_skip ?_
      | refine run_block ?_
      | refine run_inBlock ?_
      | refine run_inLoop ?_
      | refine run_exit rfl ?_
      | (refine reg_cons rfl ?_; first
          | ((with_reducible refine tag_move ?_); refine reg_pure rfl ?_)
          | ((with_reducible refine tag_assign ?_); refine reg_pure rfl ?_)
          | ((with_reducible refine tag_load ?_); first | refine reg_load_sh 0 rfl rfl rfl ?_ | refine reg_load_sh 1 rfl rfl rfl ?_ | refine reg_load_sh 2 rfl rfl rfl ?_ | refine reg_load_sh 3 rfl rfl rfl ?_ | refine reg_load_sh 4 rfl rfl rfl ?_ | refine reg_load_sh 5 rfl rfl rfl ?_ | refine reg_load_pt 0 rfl rfl rfl ?_ | refine reg_load_pt 1 rfl rfl rfl ?_ | refine reg_load_pt 2 rfl rfl rfl ?_ | refine reg_load_pt 3 rfl rfl rfl ?_ | refine reg_load_pt 4 rfl rfl rfl ?_ | refine reg_load_pt 5 rfl rfl rfl ?_)
          | ((with_reducible refine tag_call ?_); refine reg_min rfl rfl ?_)
          | ((with_reducible refine tag_extract ?_); refine reg_pure rfl ?_)
          | ((with_reducible refine tag_bin ?_); first | refine reg_add64 rfl rfl (by omega) ?_ | refine reg_sub64 rfl rfl (by omega) ?_ | refine reg_mul64 rfl rfl (by omega) ?_ | refine reg_eql rfl rfl ?_ | refine reg_lss rfl rfl ?_ | refine reg_leq rfl rfl ?_ | refine reg_eq_nil rfl rfl ?_ | refine reg_eqB rfl rfl ?_)
          | ((with_reducible refine tag_un ?_); first | refine reg_not rfl ?_ | refine reg_notB rfl ?_)
          | ((with_reducible refine tag_index ?_); first | refine reg_index_slice rfl rfl (by omega) ?_ | refine reg_index_array rfl rfl (by omega) ?_)
          | ((with_reducible refine tag_box ?_); first | refine reg_box (cs := [_]) rfl (fun nb => ?_) | refine reg_box (cs := [_, _]) rfl (fun nb => ?_) | refine reg_box (cs := [_, _, _]) rfl (fun nb => ?_) | refine reg_box (cs := [_, _, _, _]) rfl (fun nb => ?_) | refine reg_box (cs := [_, _, _, _, _]) rfl (fun nb => ?_) | refine reg_box (cs := [_, _, _, _, _, _]) rfl (fun nb => ?_) | refine reg_box (cs := [_, _, _, _, _, _, _]) rfl (fun nb => ?_) | refine reg_box (cs := [_, _, _, _, _, _, _, _]) rfl (fun nb => ?_)))
      | refine reg_nil ?_
      | refine run_condT rfl ?_
      | refine run_condF rfl ?_)
    refine ret_tmp2 rfl ⟨a, cap, rfl, rfl⟩
  | succ k =>
    refine run_slots [(1, spP p), (3, .int .i64 ((d + 1 : Nat) : Int)), (4, .int .i64 m), (5, .pointer (some ⟨nb, 0, none⟩)), (12, .int .i64 g.1), (14, .slice a acc.length cap), (28, .int .i64 (7 - (k : Int)))] ⟨rfl, rfl, rfl, rfl, rfl, rfl, int_eq (by omega), trivial⟩ (fun junk => ?_)
    have hl' := bdL_small hl
    have hl2 : BdL acc.length k := bdL_step hl (Nat.zero_le 4096)
    have hk7 : k ≤ 7 := by omega
    have hk2 : k ≤ 8 := by omega
    have hlt : k < k + 1 := Nat.lt_succ_self k
    have hi8 : 7 - (k : Int) + 1 = 8 - (k : Int) := by omega
    clear hk
    have hmul1 : 0 ≤ (7 - (k : Int)) * P := Int.mul_nonneg (by omega) (by omega)
    have hmul2 : (7 - (k : Int)) * P ≤ 7 * 4096 := Int.mul_le_mul (by omega) (by omega) (by omega) (by omega)
    repeat (first | refine run_seq ?_ | refine run_block ?_ | refine run_skip ?_ | refine run_inBlock ?_)
    first | refine run_region (by kernel_rfl) ?_ | refine run_drawA PP_mixed (by kernel_rfl) (by kernel_rfl) ?_
    repeat' (refine reg_cons rfl ?_; first
          | ((with_reducible refine tag_move ?_); refine reg_pure rfl ?_)
          | ((with_reducible refine tag_assign ?_); refine reg_pure rfl ?_)
          | ((with_reducible refine tag_load ?_); first | refine reg_load_sh 0 rfl rfl rfl ?_ | refine reg_load_sh 1 rfl rfl rfl ?_ | refine reg_load_sh 2 rfl rfl rfl ?_ | refine reg_load_sh 3 rfl rfl rfl ?_ | refine reg_load_sh 4 rfl rfl rfl ?_ | refine reg_load_sh 5 rfl rfl rfl ?_ | refine reg_load_pt 0 rfl rfl rfl ?_ | refine reg_load_pt 1 rfl rfl rfl ?_ | refine reg_load_pt 2 rfl rfl rfl ?_ | refine reg_load_pt 3 rfl rfl rfl ?_ | refine reg_load_pt 4 rfl rfl rfl ?_ | refine reg_load_pt 5 rfl rfl rfl ?_)
          | ((with_reducible refine tag_call ?_); refine reg_min rfl rfl ?_)
          | ((with_reducible refine tag_extract ?_); refine reg_pure rfl ?_)
          | ((with_reducible refine tag_bin ?_); first | refine reg_add64 rfl rfl (by omega) ?_ | refine reg_sub64 rfl rfl (by omega) ?_ | refine reg_mul64 rfl rfl (by omega) ?_ | refine reg_eql rfl rfl ?_ | refine reg_lss rfl rfl ?_ | refine reg_leq rfl rfl ?_ | refine reg_eq_nil rfl rfl ?_ | refine reg_eqB rfl rfl ?_)
          | ((with_reducible refine tag_un ?_); first | refine reg_not rfl ?_ | refine reg_notB rfl ?_)
          | ((with_reducible refine tag_index ?_); first | refine reg_index_slice rfl rfl (by omega) ?_ | refine reg_index_array rfl rfl (by omega) ?_)
          | ((with_reducible refine tag_box ?_); first | refine reg_box (cs := [_]) rfl (fun nb => ?_) | refine reg_box (cs := [_, _]) rfl (fun nb => ?_) | refine reg_box (cs := [_, _, _]) rfl (fun nb => ?_) | refine reg_box (cs := [_, _, _, _]) rfl (fun nb => ?_) | refine reg_box (cs := [_, _, _, _, _]) rfl (fun nb => ?_) | refine reg_box (cs := [_, _, _, _, _, _]) rfl (fun nb => ?_) | refine reg_box (cs := [_, _, _, _, _, _, _]) rfl (fun nb => ?_) | refine reg_box (cs := [_, _, _, _, _, _, _, _]) rfl (fun nb => ?_)))
    all_goals refine reg_nil ?_
    all_goals repeat (first | refine run_seq ?_ | refine run_block ?_ | refine run_skip ?_ | refine run_inBlock ?_)
    refine run_condT (bool_eq (decide_eq_true (by omega))) ?_
    repeat (first | refine run_seq ?_ | refine run_block ?_ | refine run_skip ?_ | refine run_inBlock ?_)
    first | refine run_region (by kernel_rfl) ?_ | refine run_drawA PP_mixed (by kernel_rfl) (by kernel_rfl) ?_
    repeat' (refine reg_cons rfl ?_; first
          | ((with_reducible refine tag_move ?_); refine reg_pure rfl ?_)
          | ((with_reducible refine tag_assign ?_); refine reg_pure rfl ?_)
          | ((with_reducible refine tag_load ?_); first | refine reg_load_sh 0 rfl rfl rfl ?_ | refine reg_load_sh 1 rfl rfl rfl ?_ | refine reg_load_sh 2 rfl rfl rfl ?_ | refine reg_load_sh 3 rfl rfl rfl ?_ | refine reg_load_sh 4 rfl rfl rfl ?_ | refine reg_load_sh 5 rfl rfl rfl ?_ | refine reg_load_pt 0 rfl rfl rfl ?_ | refine reg_load_pt 1 rfl rfl rfl ?_ | refine reg_load_pt 2 rfl rfl rfl ?_ | refine reg_load_pt 3 rfl rfl rfl ?_ | refine reg_load_pt 4 rfl rfl rfl ?_ | refine reg_load_pt 5 rfl rfl rfl ?_)
          | ((with_reducible refine tag_call ?_); refine reg_min rfl rfl ?_)
          | ((with_reducible refine tag_extract ?_); refine reg_pure rfl ?_)
          | ((with_reducible refine tag_bin ?_); first | refine reg_add64 rfl rfl (by omega) ?_ | refine reg_sub64 rfl rfl (by omega) ?_ | refine reg_mul64 rfl rfl (by omega) ?_ | refine reg_eql rfl rfl ?_ | refine reg_lss rfl rfl ?_ | refine reg_leq rfl rfl ?_ | refine reg_eq_nil rfl rfl ?_ | refine reg_eqB rfl rfl ?_)
          | ((with_reducible refine tag_un ?_); first | refine reg_not rfl ?_ | refine reg_notB rfl ?_)
          | ((with_reducible refine tag_index ?_); first | refine reg_index_slice rfl rfl (by omega) ?_ | refine reg_index_array rfl rfl (by omega) ?_)
          | ((with_reducible refine tag_box ?_); first | refine reg_box (cs := [_]) rfl (fun nb => ?_) | refine reg_box (cs := [_, _]) rfl (fun nb => ?_) | refine reg_box (cs := [_, _, _]) rfl (fun nb => ?_) | refine reg_box (cs := [_, _, _, _]) rfl (fun nb => ?_) | refine reg_box (cs := [_, _, _, _, _]) rfl (fun nb => ?_) | refine reg_box (cs := [_, _, _, _, _, _]) rfl (fun nb => ?_) | refine reg_box (cs := [_, _, _, _, _, _, _]) rfl (fun nb => ?_) | refine reg_box (cs := [_, _, _, _, _, _, _, _]) rfl (fun nb => ?_)))
    all_goals refine reg_nil ?_
    all_goals repeat (first | refine run_seq ?_ | refine run_block ?_ | refine run_skip ?_ | refine run_inBlock ?_)
    repeat (first | refine run_seq ?_ | refine run_block ?_ | refine run_skip ?_ | refine run_inBlock ?_)
    first | refine run_region (by kernel_rfl) ?_ | refine run_drawA PP_mixed (by kernel_rfl) (by kernel_rfl) ?_
    repeat' (refine reg_cons rfl ?_; first
          | refine reg_load_base rfl hw2 (hPd ▸ powL_rd d (by omega) _ (by omega)) ?_
          | ((with_reducible refine tag_move ?_); refine reg_pure rfl ?_)
          | ((with_reducible refine tag_assign ?_); refine reg_pure rfl ?_)
          | ((with_reducible refine tag_load ?_); first | refine reg_load_sh 0 rfl rfl rfl ?_ | refine reg_load_sh 1 rfl rfl rfl ?_ | refine reg_load_sh 2 rfl rfl rfl ?_ | refine reg_load_sh 3 rfl rfl rfl ?_ | refine reg_load_sh 4 rfl rfl rfl ?_ | refine reg_load_sh 5 rfl rfl rfl ?_ | refine reg_load_pt 0 rfl rfl rfl ?_ | refine reg_load_pt 1 rfl rfl rfl ?_ | refine reg_load_pt 2 rfl rfl rfl ?_ | refine reg_load_pt 3 rfl rfl rfl ?_ | refine reg_load_pt 4 rfl rfl rfl ?_ | refine reg_load_pt 5 rfl rfl rfl ?_)
          | ((with_reducible refine tag_call ?_); refine reg_min rfl rfl ?_)
          | ((with_reducible refine tag_extract ?_); refine reg_pure rfl ?_)
          | ((with_reducible refine tag_bin ?_); first | refine reg_add64 rfl rfl (by omega) ?_ | refine reg_sub64 rfl rfl (by omega) ?_ | refine reg_mul64 rfl rfl (by omega) ?_ | refine reg_eql rfl rfl ?_ | refine reg_lss rfl rfl ?_ | refine reg_leq rfl rfl ?_ | refine reg_eq_nil rfl rfl ?_ | refine reg_eqB rfl rfl ?_)
          | ((with_reducible refine tag_un ?_); first | refine reg_not rfl ?_ | refine reg_notB rfl ?_)
          | ((with_reducible refine tag_index ?_); first | refine reg_index_slice rfl rfl (by omega) ?_ | refine reg_index_array rfl rfl (by omega) ?_)
          | ((with_reducible refine tag_box ?_); first | refine reg_box (cs := [_]) rfl (fun nb => ?_) | refine reg_box (cs := [_, _]) rfl (fun nb => ?_) | refine reg_box (cs := [_, _, _]) rfl (fun nb => ?_) | refine reg_box (cs := [_, _, _, _]) rfl (fun nb => ?_) | refine reg_box (cs := [_, _, _, _, _]) rfl (fun nb => ?_) | refine reg_box (cs := [_, _, _, _, _, _]) rfl (fun nb => ?_) | refine reg_box (cs := [_, _, _, _, _, _, _]) rfl (fun nb => ?_) | refine reg_box (cs := [_, _, _, _, _, _, _, _]) rfl (fun nb => ?_)))
    all_goals refine reg_nil ?_
    all_goals repeat (first | refine run_seq ?_ | refine run_block ?_ | refine run_skip ?_ | refine run_inBlock ?_)
    repeat (first | refine run_seq ?_ | refine run_block ?_ | refine run_skip ?_ | refine run_inBlock ?_)
    first | refine run_region (by kernel_rfl) ?_ | refine run_drawA PP_mixed (by kernel_rfl) (by kernel_rfl) ?_
    repeat' (refine reg_cons rfl ?_; first
          | ((with_reducible refine tag_move ?_); refine reg_pure rfl ?_)
          | ((with_reducible refine tag_assign ?_); refine reg_pure rfl ?_)
          | ((with_reducible refine tag_load ?_); first | refine reg_load_sh 0 rfl rfl rfl ?_ | refine reg_load_sh 1 rfl rfl rfl ?_ | refine reg_load_sh 2 rfl rfl rfl ?_ | refine reg_load_sh 3 rfl rfl rfl ?_ | refine reg_load_sh 4 rfl rfl rfl ?_ | refine reg_load_sh 5 rfl rfl rfl ?_ | refine reg_load_pt 0 rfl rfl rfl ?_ | refine reg_load_pt 1 rfl rfl rfl ?_ | refine reg_load_pt 2 rfl rfl rfl ?_ | refine reg_load_pt 3 rfl rfl rfl ?_ | refine reg_load_pt 4 rfl rfl rfl ?_ | refine reg_load_pt 5 rfl rfl rfl ?_)
          | ((with_reducible refine tag_call ?_); refine reg_min rfl rfl ?_)
          | ((with_reducible refine tag_extract ?_); refine reg_pure rfl ?_)
          | ((with_reducible refine tag_bin ?_); first | refine reg_add64 rfl rfl (by omega) ?_ | refine reg_sub64 rfl rfl (by omega) ?_ | refine reg_mul64 rfl rfl (by omega) ?_ | refine reg_eql rfl rfl ?_ | refine reg_lss rfl rfl ?_ | refine reg_leq rfl rfl ?_ | refine reg_eq_nil rfl rfl ?_ | refine reg_eqB rfl rfl ?_)
          | ((with_reducible refine tag_un ?_); first | refine reg_not rfl ?_ | refine reg_notB rfl ?_)
          | ((with_reducible refine tag_index ?_); first | refine reg_index_slice rfl rfl (by omega) ?_ | refine reg_index_array rfl rfl (by omega) ?_)
          | ((with_reducible refine tag_box ?_); first | refine reg_box (cs := [_]) rfl (fun nb => ?_) | refine reg_box (cs := [_, _]) rfl (fun nb => ?_) | refine reg_box (cs := [_, _, _]) rfl (fun nb => ?_) | refine reg_box (cs := [_, _, _, _]) rfl (fun nb => ?_) | refine reg_box (cs := [_, _, _, _, _]) rfl (fun nb => ?_) | refine reg_box (cs := [_, _, _, _, _, _]) rfl (fun nb => ?_) | refine reg_box (cs := [_, _, _, _, _, _, _]) rfl (fun nb => ?_) | refine reg_box (cs := [_, _, _, _, _, _, _, _]) rfl (fun nb => ?_)))
    all_goals refine reg_nil ?_
    all_goals repeat (first | refine run_seq ?_ | refine run_block ?_ | refine run_skip ?_ | refine run_inBlock ?_)
    have es := wloop_succ (A.walk d) (decide (d = 0)) g.1 m P k s' acc
    refine run_cond rfl (fun hE => ?_) (fun hE => ?_)
    · rw [if_pos hE] at es
      repeat' (first
        | refine run_seq ?_
        | refine run_region (by kernel_rfl) ?_
        | refine run_drawA PP_mixed (by kernel_rfl) (by kernel_rfl) ?_
        | refine run_skip ?_
        | refine run_block ?_
        | refine run_inBlock ?_
        | refine run_inLoop ?_
        | refine run_exit rfl ?_
        | (refine reg_cons rfl ?_; first
            | ((with_reducible refine tag_move ?_); refine reg_pure rfl ?_)
            | ((with_reducible refine tag_assign ?_); refine reg_pure rfl ?_)
            | ((with_reducible refine tag_load ?_); first | refine reg_load_sh 0 rfl rfl rfl ?_ | refine reg_load_sh 1 rfl rfl rfl ?_ | refine reg_load_sh 2 rfl rfl rfl ?_ | refine reg_load_sh 3 rfl rfl rfl ?_ | refine reg_load_sh 4 rfl rfl rfl ?_ | refine reg_load_sh 5 rfl rfl rfl ?_ | refine reg_load_pt 0 rfl rfl rfl ?_ | refine reg_load_pt 1 rfl rfl rfl ?_ | refine reg_load_pt 2 rfl rfl rfl ?_ | refine reg_load_pt 3 rfl rfl rfl ?_ | refine reg_load_pt 4 rfl rfl rfl ?_ | refine reg_load_pt 5 rfl rfl rfl ?_)
            | ((with_reducible refine tag_call ?_); refine reg_min rfl rfl ?_)
            | ((with_reducible refine tag_extract ?_); refine reg_pure rfl ?_)
            | ((with_reducible refine tag_bin ?_); first | refine reg_add64 rfl rfl (by omega) ?_ | refine reg_sub64 rfl rfl (by omega) ?_ | refine reg_mul64 rfl rfl (by omega) ?_ | refine reg_eql rfl rfl ?_ | refine reg_lss rfl rfl ?_ | refine reg_leq rfl rfl ?_ | refine reg_eq_nil rfl rfl ?_ | refine reg_eqB rfl rfl ?_)
            | ((with_reducible refine tag_un ?_); first | refine reg_not rfl ?_ | refine reg_notB rfl ?_)
            | ((with_reducible refine tag_index ?_); first | refine reg_index_slice rfl rfl (by omega) ?_ | refine reg_index_array rfl rfl (by omega) ?_)
            | ((with_reducible refine tag_box ?_); first | refine reg_box (cs := [_]) rfl (fun nb => ?_) | refine reg_box (cs := [_, _]) rfl (fun nb => ?_) | refine reg_box (cs := [_, _, _]) rfl (fun nb => ?_) | refine reg_box (cs := [_, _, _, _]) rfl (fun nb => ?_) | refine reg_box (cs := [_, _, _, _, _]) rfl (fun nb => ?_) | refine reg_box (cs := [_, _, _, _, _, _]) rfl (fun nb => ?_) | refine reg_box (cs := [_, _, _, _, _, _, _]) rfl (fun nb => ?_) | refine reg_box (cs := [_, _, _, _, _, _, _, _]) rfl (fun nb => ?_)))
        | refine reg_nil ?_
        | refine run_condT rfl ?_
        | refine run_condF rfl ?_)
      exact cut_end ⟨rfl, (k, s', acc, a, cap), ⟨rfl, rfl, rfl, rfl, rfl, rfl, int_eq hi8, trivial⟩, ⟨rfl, hk2, hl2, hsm3, es.symm⟩, hlt⟩
    · rw [if_neg hE] at es
      repeat (first | refine run_seq ?_ | refine run_block ?_ | refine run_skip ?_ | refine run_inBlock ?_)
      first | refine run_region (by kernel_rfl) ?_ | refine run_drawA PP_mixed (by kernel_rfl) (by kernel_rfl) ?_
      repeat' (refine reg_cons rfl ?_; first
            | ((with_reducible refine tag_move ?_); refine reg_pure rfl ?_)
            | ((with_reducible refine tag_assign ?_); refine reg_pure rfl ?_)
            | ((with_reducible refine tag_load ?_); first | refine reg_load_sh 0 rfl rfl rfl ?_ | refine reg_load_sh 1 rfl rfl rfl ?_ | refine reg_load_sh 2 rfl rfl rfl ?_ | refine reg_load_sh 3 rfl rfl rfl ?_ | refine reg_load_sh 4 rfl rfl rfl ?_ | refine reg_load_sh 5 rfl rfl rfl ?_ | refine reg_load_pt 0 rfl rfl rfl ?_ | refine reg_load_pt 1 rfl rfl rfl ?_ | refine reg_load_pt 2 rfl rfl rfl ?_ | refine reg_load_pt 3 rfl rfl rfl ?_ | refine reg_load_pt 4 rfl rfl rfl ?_ | refine reg_load_pt 5 rfl rfl rfl ?_)
            | ((with_reducible refine tag_call ?_); refine reg_min rfl rfl ?_)
            | ((with_reducible refine tag_extract ?_); refine reg_pure rfl ?_)
            | ((with_reducible refine tag_bin ?_); first | refine reg_add64 rfl rfl (by omega) ?_ | refine reg_sub64 rfl rfl (by omega) ?_ | refine reg_mul64 rfl rfl (by omega) ?_ | refine reg_eql rfl rfl ?_ | refine reg_lss rfl rfl ?_ | refine reg_leq rfl rfl ?_ | refine reg_eq_nil rfl rfl ?_ | refine reg_eqB rfl rfl ?_)
            | ((with_reducible refine tag_un ?_); first | refine reg_not rfl ?_ | refine reg_notB rfl ?_)
            | ((with_reducible refine tag_index ?_); first | refine reg_index_slice rfl rfl (by omega) ?_ | refine reg_index_array rfl rfl (by omega) ?_)
            | ((with_reducible refine tag_box ?_); first | refine reg_box (cs := [_]) rfl (fun nb => ?_) | refine reg_box (cs := [_, _]) rfl (fun nb => ?_) | refine reg_box (cs := [_, _, _]) rfl (fun nb => ?_) | refine reg_box (cs := [_, _, _, _]) rfl (fun nb => ?_) | refine reg_box (cs := [_, _, _, _, _]) rfl (fun nb => ?_) | refine reg_box (cs := [_, _, _, _, _, _]) rfl (fun nb => ?_) | refine reg_box (cs := [_, _, _, _, _, _, _]) rfl (fun nb => ?_) | refine reg_box (cs := [_, _, _, _, _, _, _, _]) rfl (fun nb => ?_)))
      all_goals refine reg_nil ?_
      all_goals repeat (first | refine run_seq ?_ | refine run_block ?_ | refine run_skip ?_ | refine run_inBlock ?_)
      refine run_slots [(1, spP p), (3, .int .i64 ((d + 1 : Nat) : Int)), (4, .int .i64 m), (5, .pointer (some ⟨nb, 0, none⟩)), (12, .int .i64 g.1), (14, .slice a acc.length cap), (28, .int .i64 (7 - (k : Int))), (15, .int .i64 (7 - (k : Int))), (16, .int .i64 (m - (7 - (k : Int)) * P)), (64, .bool (decide (d = 0)))]
        ⟨rfl, rfl, rfl, rfl, rfl, rfl, rfl, rfl, rfl, bool_eq (dec_eq (by omega)), trivial⟩ (fun junk => ?_)
      refine run_cond rfl (fun hE2 => ?_) (fun hE2 => ?_)
      · rw [if_pos (decide_eq_true hE2)] at es
        repeat' (first
          | refine run_seq ?_
          | refine run_region (by kernel_rfl) ?_
          | refine run_drawA PP_mixed (by kernel_rfl) (by kernel_rfl) ?_
          | refine run_skip ?_
          | refine run_block ?_
          | refine run_inBlock ?_
          | refine run_inLoop ?_
          | refine run_exit rfl ?_
          | (refine reg_cons rfl ?_; first
              | refine reg_buildSlice rfl rfl rfl rfl rfl rfl (fun nb2 => ?_)
              | refine reg_append 1 2 rfl rfl rfl rfl rfl rfl rfl rfl (by omega) (fun _ _ => rfl) (fun a' cap' => ?_)
              | ((with_reducible refine tag_move ?_); refine reg_pure rfl ?_)
              | ((with_reducible refine tag_assign ?_); refine reg_pure rfl ?_)
              | ((with_reducible refine tag_load ?_); first | refine reg_load_sh 0 rfl rfl rfl ?_ | refine reg_load_sh 1 rfl rfl rfl ?_ | refine reg_load_sh 2 rfl rfl rfl ?_ | refine reg_load_sh 3 rfl rfl rfl ?_ | refine reg_load_sh 4 rfl rfl rfl ?_ | refine reg_load_sh 5 rfl rfl rfl ?_ | refine reg_load_pt 0 rfl rfl rfl ?_ | refine reg_load_pt 1 rfl rfl rfl ?_ | refine reg_load_pt 2 rfl rfl rfl ?_ | refine reg_load_pt 3 rfl rfl rfl ?_ | refine reg_load_pt 4 rfl rfl rfl ?_ | refine reg_load_pt 5 rfl rfl rfl ?_)
              | ((with_reducible refine tag_call ?_); first | refine reg_callE [0] (getS w0 p _ _ hsm3) rfl rfl rfl sub_nil rfl ?_ | refine reg_min rfl rfl ?_)
              | ((with_reducible refine tag_extract ?_); refine reg_pure rfl ?_)
              | ((with_reducible refine tag_bin ?_); first | refine reg_add64 rfl rfl (by omega) ?_ | refine reg_sub64 rfl rfl (by omega) ?_ | refine reg_mul64 rfl rfl (by omega) ?_ | refine reg_eql rfl rfl ?_ | refine reg_lss rfl rfl ?_ | refine reg_leq rfl rfl ?_ | refine reg_eq_nil rfl rfl ?_ | refine reg_eqB rfl rfl ?_)
              | ((with_reducible refine tag_un ?_); first | refine reg_not rfl ?_ | refine reg_notB rfl ?_)
              | ((with_reducible refine tag_index ?_); first | refine reg_index_slice rfl rfl (by omega) ?_ | refine reg_index_array rfl rfl (by omega) ?_)
              | ((with_reducible refine tag_box ?_); first | refine reg_box (cs := [_]) rfl (fun nb => ?_) | refine reg_box (cs := [_, _]) rfl (fun nb => ?_) | refine reg_box (cs := [_, _, _]) rfl (fun nb => ?_) | refine reg_box (cs := [_, _, _, _]) rfl (fun nb => ?_) | refine reg_box (cs := [_, _, _, _, _]) rfl (fun nb => ?_) | refine reg_box (cs := [_, _, _, _, _, _]) rfl (fun nb => ?_) | refine reg_box (cs := [_, _, _, _, _, _, _]) rfl (fun nb => ?_) | refine reg_box (cs := [_, _, _, _, _, _, _, _]) rfl (fun nb => ?_)))
          | refine reg_nil ?_
          | refine run_condT rfl ?_
          | refine run_condF rfl ?_)
        refine run_take [0, 0] rfl ?_
        refine cut_end ⟨rfl, (k, (s'.get (g.1 + (7 - (k : Int)))).2, acc ++ [(s'.get (g.1 + (7 - (k : Int)))).1], a', cap'), ⟨rfl, rfl, rfl, rfl, rfl, ?_, int_eq hi8, trivial⟩, ⟨?_, hk2, ?_, sm_get hsm3, es.symm⟩, hlt⟩
        · rw [List.length_append]; rfl
        · rw [intL_append, List.length_append]; rfl
        · show BdL (acc ++ [_]).length k
          rw [List.length_append]; exact bdL_step hl (by simp)
      · have hE3 : ¬ (decide (d = 0) = true) := by simpa using hE2
        rw [if_neg hE3] at es
        have hd0 : d ≠ 0 := hE2
        have hmin : 1 ≤ (if P < m - (7 - (k : Int)) * P then P else m - (7 - (k : Int)) * P) ∧ (if P < m - (7 - (k : Int)) * P then P else m - (7 - (k : Int)) * P) ≤ 4096 := by split <;> omega
        generalize hM : (if P < m - (7 - (k : Int)) * P then P else m - (7 - (k : Int)) * P) = M at es hmin
        have hR := hrec hd0 (((d + 1 : Nat) : Int) - 1) (by omega) (g.1 + (7 - (k : Int))) M (by omega) hmin s' hsm3
        have hsm4 : Sm (A.walk d (g.1 + (7 - (k : Int))) M s').2 0 := sm_walk d _ _ _ hsm3
        have hlw := hlenB (g.1 + (7 - (k : Int))) M s'
        have hnw := walk_ne A d (by omega) (g.1 + (7 - (k : Int))) M s'
        generalize hW : A.walk d (g.1 + (7 - (k : Int))) M s' = W at es hR hsm4 hlw hnw
        obtain ⟨o, t⟩ := W
        cases o with
        | none =>
          dsimp only at es
          have hRn : FnE PP w0 [] 39 [arrV A, spP p, .int .i64 (g.1 + (7 - (k : Int))), .int .i64 (((d + 1 : Nat) : Int) - 1), .int .i64 M] [SpaceA p s'] (.tuple #[.slice none 0 0, .bool false]) [SpaceA p t] := hR
          repeat' (first
            | refine run_seq ?_
            | refine run_region (by kernel_rfl) ?_
            | refine run_drawA PP_mixed (by kernel_rfl) (by kernel_rfl) ?_
            | refine run_skip ?_
            | refine run_block ?_
            | refine run_inBlock ?_
            | refine run_inLoop ?_
            | refine run_exit rfl ?_
            | (refine reg_cons rfl ?_; first
                | (refine reg_min rfl rfl ?_; rw [hM])
                | refine reg_load_base rfl hw2 (hPd ▸ powL_rd d (by omega) _ (by omega)) ?_
                | ((with_reducible refine tag_move ?_); refine reg_pure rfl ?_)
                | ((with_reducible refine tag_assign ?_); refine reg_pure rfl ?_)
                | ((with_reducible refine tag_load ?_); first | refine reg_load_sh 0 rfl rfl rfl ?_ | refine reg_load_sh 1 rfl rfl rfl ?_ | refine reg_load_sh 2 rfl rfl rfl ?_ | refine reg_load_sh 3 rfl rfl rfl ?_ | refine reg_load_sh 4 rfl rfl rfl ?_ | refine reg_load_sh 5 rfl rfl rfl ?_ | refine reg_load_pt 0 rfl rfl rfl ?_ | refine reg_load_pt 1 rfl rfl rfl ?_ | refine reg_load_pt 2 rfl rfl rfl ?_ | refine reg_load_pt 3 rfl rfl rfl ?_ | refine reg_load_pt 4 rfl rfl rfl ?_ | refine reg_load_pt 5 rfl rfl rfl ?_)
                | ((with_reducible refine tag_call ?_); first | refine reg_callE [0] hRn rfl rfl rfl sub_nil rfl ?_ | refine reg_min rfl rfl ?_)
                | ((with_reducible refine tag_extract ?_); refine reg_pure rfl ?_)
                | ((with_reducible refine tag_bin ?_); first | refine reg_add64 rfl rfl (by omega) ?_ | refine reg_sub64 rfl rfl (by omega) ?_ | refine reg_mul64 rfl rfl (by omega) ?_ | refine reg_eql rfl rfl ?_ | refine reg_lss rfl rfl ?_ | refine reg_leq rfl rfl ?_ | refine reg_eq_nil rfl rfl ?_ | refine reg_eqB rfl rfl ?_)
                | ((with_reducible refine tag_un ?_); first | refine reg_not rfl ?_ | refine reg_notB rfl ?_)
                | ((with_reducible refine tag_index ?_); first | refine reg_index_slice rfl rfl (by omega) ?_ | refine reg_index_array rfl rfl (by omega) ?_)
                | ((with_reducible refine tag_box ?_); first | refine reg_box (cs := [_]) rfl (fun nb => ?_) | refine reg_box (cs := [_, _]) rfl (fun nb => ?_) | refine reg_box (cs := [_, _, _]) rfl (fun nb => ?_) | refine reg_box (cs := [_, _, _, _]) rfl (fun nb => ?_) | refine reg_box (cs := [_, _, _, _, _]) rfl (fun nb => ?_) | refine reg_box (cs := [_, _, _, _, _, _]) rfl (fun nb => ?_) | refine reg_box (cs := [_, _, _, _, _, _, _]) rfl (fun nb => ?_) | refine reg_box (cs := [_, _, _, _, _, _, _, _]) rfl (fun nb => ?_)))
            | refine reg_nil ?_
            | refine run_condT rfl ?_
            | refine run_condF rfl ?_)
          rw [es]
          refine run_take [0] rfl ?_
          exact qret2 (fun _ _ h => h) rfl ⟨rfl, rfl⟩
        | some l =>
          dsimp only at es
          have hl1 := hlw l t rfl
          have hne := hnw l t hmin.1 rfl
          repeat (first | refine run_seq ?_ | refine run_block ?_ | refine run_skip ?_ | refine run_inBlock ?_)
          first | refine run_region (by kernel_rfl) ?_ | refine run_drawA PP_mixed (by kernel_rfl) (by kernel_rfl) ?_
          repeat' (refine reg_cons rfl ?_; first
                | (refine reg_min rfl rfl ?_; rw [hM])
                | refine reg_load_base rfl hw2 (hPd ▸ powL_rd d (by omega) _ (by omega)) ?_
                | (refine reg_call [0] hR rfl rfl rfl sub_nil ?_; rintro v Γ' ⟨a2, cap2, rfl, rfl⟩)
                | ((with_reducible refine tag_move ?_); refine reg_pure rfl ?_)
                | ((with_reducible refine tag_assign ?_); refine reg_pure rfl ?_)
                | ((with_reducible refine tag_load ?_); first | refine reg_load_sh 0 rfl rfl rfl ?_ | refine reg_load_sh 1 rfl rfl rfl ?_ | refine reg_load_sh 2 rfl rfl rfl ?_ | refine reg_load_sh 3 rfl rfl rfl ?_ | refine reg_load_sh 4 rfl rfl rfl ?_ | refine reg_load_sh 5 rfl rfl rfl ?_ | refine reg_load_pt 0 rfl rfl rfl ?_ | refine reg_load_pt 1 rfl rfl rfl ?_ | refine reg_load_pt 2 rfl rfl rfl ?_ | refine reg_load_pt 3 rfl rfl rfl ?_ | refine reg_load_pt 4 rfl rfl rfl ?_ | refine reg_load_pt 5 rfl rfl rfl ?_)
                | ((with_reducible refine tag_call ?_); refine reg_min rfl rfl ?_)
                | ((with_reducible refine tag_extract ?_); refine reg_pure rfl ?_)
                | ((with_reducible refine tag_bin ?_); first | refine reg_add64 rfl rfl (by omega) ?_ | refine reg_sub64 rfl rfl (by omega) ?_ | refine reg_mul64 rfl rfl (by omega) ?_ | refine reg_eql rfl rfl ?_ | refine reg_lss rfl rfl ?_ | refine reg_leq rfl rfl ?_ | refine reg_eq_nil rfl rfl ?_ | refine reg_eqB rfl rfl ?_)
                | ((with_reducible refine tag_un ?_); first | refine reg_not rfl ?_ | refine reg_notB rfl ?_)
                | ((with_reducible refine tag_index ?_); first | refine reg_index_slice rfl rfl (by omega) ?_ | refine reg_index_array rfl rfl (by omega) ?_)
                | ((with_reducible refine tag_box ?_); first | refine reg_box (cs := [_]) rfl (fun nb => ?_) | refine reg_box (cs := [_, _]) rfl (fun nb => ?_) | refine reg_box (cs := [_, _, _]) rfl (fun nb => ?_) | refine reg_box (cs := [_, _, _, _]) rfl (fun nb => ?_) | refine reg_box (cs := [_, _, _, _, _]) rfl (fun nb => ?_) | refine reg_box (cs := [_, _, _, _, _, _]) rfl (fun nb => ?_) | refine reg_box (cs := [_, _, _, _, _, _, _]) rfl (fun nb => ?_) | refine reg_box (cs := [_, _, _, _, _, _, _, _]) rfl (fun nb => ?_)))
          all_goals refine reg_nil ?_
          all_goals repeat (first | refine run_seq ?_ | refine run_block ?_ | refine run_skip ?_ | refine run_inBlock ?_)
          repeat (first | refine run_seq ?_ | refine run_block ?_ | refine run_skip ?_ | refine run_inBlock ?_)
          first | refine run_region (by kernel_rfl) ?_ | refine run_drawA PP_mixed (by kernel_rfl) (by kernel_rfl) ?_
          repeat' (refine reg_cons rfl ?_; first
                | ((with_reducible refine tag_move ?_); refine reg_pure rfl ?_)
                | ((with_reducible refine tag_assign ?_); refine reg_pure rfl ?_)
                | ((with_reducible refine tag_load ?_); first | refine reg_load_sh 0 rfl rfl rfl ?_ | refine reg_load_sh 1 rfl rfl rfl ?_ | refine reg_load_sh 2 rfl rfl rfl ?_ | refine reg_load_sh 3 rfl rfl rfl ?_ | refine reg_load_sh 4 rfl rfl rfl ?_ | refine reg_load_sh 5 rfl rfl rfl ?_ | refine reg_load_pt 0 rfl rfl rfl ?_ | refine reg_load_pt 1 rfl rfl rfl ?_ | refine reg_load_pt 2 rfl rfl rfl ?_ | refine reg_load_pt 3 rfl rfl rfl ?_ | refine reg_load_pt 4 rfl rfl rfl ?_ | refine reg_load_pt 5 rfl rfl rfl ?_)
                | ((with_reducible refine tag_call ?_); refine reg_min rfl rfl ?_)
                | ((with_reducible refine tag_extract ?_); refine reg_pure rfl ?_)
                | ((with_reducible refine tag_bin ?_); first | refine reg_add64 rfl rfl (by omega) ?_ | refine reg_sub64 rfl rfl (by omega) ?_ | refine reg_mul64 rfl rfl (by omega) ?_ | refine reg_eql rfl rfl ?_ | refine reg_lss rfl rfl ?_ | refine reg_leq rfl rfl ?_ | refine reg_eq_nil rfl rfl ?_ | refine reg_eqB rfl rfl ?_)
                | ((with_reducible refine tag_un ?_); first | refine reg_not rfl ?_ | refine reg_notB rfl ?_)
                | ((with_reducible refine tag_index ?_); first | refine reg_index_slice rfl rfl (by omega) ?_ | refine reg_index_array rfl rfl (by omega) ?_)
                | ((with_reducible refine tag_box ?_); first | refine reg_box (cs := [_]) rfl (fun nb => ?_) | refine reg_box (cs := [_, _]) rfl (fun nb => ?_) | refine reg_box (cs := [_, _, _]) rfl (fun nb => ?_) | refine reg_box (cs := [_, _, _, _]) rfl (fun nb => ?_) | refine reg_box (cs := [_, _, _, _, _]) rfl (fun nb => ?_) | refine reg_box (cs := [_, _, _, _, _, _]) rfl (fun nb => ?_) | refine reg_box (cs := [_, _, _, _, _, _, _]) rfl (fun nb => ?_) | refine reg_box (cs := [_, _, _, _, _, _, _, _]) rfl (fun nb => ?_)))
          all_goals refine reg_nil ?_
          all_goals repeat (first | refine run_seq ?_ | refine run_block ?_ | refine run_skip ?_ | refine run_inBlock ?_)
          refine run_condF rfl ?_
          refine run_sl_cases 1 rfl (fun _ hz _ _ => absurd (List.length_eq_zero_iff.1 hz) hne) ?_
          intro lb e1 e2 e3
          subst e1
          refine run_open [1] (fun spare => [pt lb (.cells (List.toArray (intL l ++ spare)) 2 (0, 0))]) rfl (fun g hg => ?_) (fun spare => ?_)
          · obtain ⟨b', spare, h1, h2, h3, h4, h5⟩ := SlA.some_iff.1 hg
            cases h1
            exact ⟨spare, Stars.one.2 h5⟩
          refine run_slots [(1, spP p), (3, .int .i64 ((d + 1 : Nat) : Int)), (4, .int .i64 m), (5, .pointer (some ⟨nb, 0, none⟩)), (12, .int .i64 g.1), (14, .slice a acc.length cap), (28, .int .i64 (7 - (k : Int))), (17, .slice (some ⟨lb, 0, none⟩) l.length cap2)]
            ⟨rfl, rfl, rfl, rfl, rfl, rfl, rfl, rfl, trivial⟩ (fun junk => ?_)
          have hnew : takeL (l.length * 1) (dropL 0 (intL l ++ spare)) = some (intL l) := by
            have := takeL_all (intL l) spare
            rw [intL_length] at this
            rw [Nat.mul_one]; exact this
          repeat' (first
            | refine run_seq ?_
            | refine run_region (by kernel_rfl) ?_
            | refine run_drawA PP_mixed (by kernel_rfl) (by kernel_rfl) ?_
            | refine run_skip ?_
            | refine run_block ?_
            | refine run_inBlock ?_
            | refine run_inLoop ?_
            | refine run_exit rfl ?_
            | (refine reg_cons rfl ?_; first
                | refine reg_append 2 0 rfl rfl rfl rfl hnew rfl (intL_one l) rfl (by omega) (fun _ _ => rfl) (fun a' cap' => ?_)
                | ((with_reducible refine tag_move ?_); refine reg_pure rfl ?_)
                | ((with_reducible refine tag_assign ?_); refine reg_pure rfl ?_)
                | ((with_reducible refine tag_load ?_); first | refine reg_load_sh 0 rfl rfl rfl ?_ | refine reg_load_sh 1 rfl rfl rfl ?_ | refine reg_load_sh 2 rfl rfl rfl ?_ | refine reg_load_sh 3 rfl rfl rfl ?_ | refine reg_load_sh 4 rfl rfl rfl ?_ | refine reg_load_sh 5 rfl rfl rfl ?_ | refine reg_load_pt 0 rfl rfl rfl ?_ | refine reg_load_pt 1 rfl rfl rfl ?_ | refine reg_load_pt 2 rfl rfl rfl ?_ | refine reg_load_pt 3 rfl rfl rfl ?_ | refine reg_load_pt 4 rfl rfl rfl ?_ | refine reg_load_pt 5 rfl rfl rfl ?_)
                | ((with_reducible refine tag_call ?_); refine reg_min rfl rfl ?_)
                | ((with_reducible refine tag_extract ?_); refine reg_pure rfl ?_)
                | ((with_reducible refine tag_bin ?_); first | refine reg_add64 rfl rfl (by omega) ?_ | refine reg_sub64 rfl rfl (by omega) ?_ | refine reg_mul64 rfl rfl (by omega) ?_ | refine reg_eql rfl rfl ?_ | refine reg_lss rfl rfl ?_ | refine reg_leq rfl rfl ?_ | refine reg_eq_nil rfl rfl ?_ | refine reg_eqB rfl rfl ?_)
                | ((with_reducible refine tag_un ?_); first | refine reg_not rfl ?_ | refine reg_notB rfl ?_)
                | ((with_reducible refine tag_index ?_); first | refine reg_index_slice rfl rfl (by omega) ?_ | refine reg_index_array rfl rfl (by omega) ?_)
                | ((with_reducible refine tag_box ?_); first | refine reg_box (cs := [_]) rfl (fun nb => ?_) | refine reg_box (cs := [_, _]) rfl (fun nb => ?_) | refine reg_box (cs := [_, _, _]) rfl (fun nb => ?_) | refine reg_box (cs := [_, _, _, _]) rfl (fun nb => ?_) | refine reg_box (cs := [_, _, _, _, _]) rfl (fun nb => ?_) | refine reg_box (cs := [_, _, _, _, _, _]) rfl (fun nb => ?_) | refine reg_box (cs := [_, _, _, _, _, _, _]) rfl (fun nb => ?_) | refine reg_box (cs := [_, _, _, _, _, _, _, _]) rfl (fun nb => ?_)))
            | refine reg_nil ?_
            | refine run_condT rfl ?_
            | refine run_condF rfl ?_)
          refine run_take [1, 1] rfl ?_
          refine cut_end ⟨rfl, (k, t, acc ++ l, a', cap'), ⟨rfl, rfl, rfl, rfl, rfl, ?_, int_eq hi8, trivial⟩, ⟨?_, hk2, ?_, hsm4, es.symm⟩, hlt⟩
          · rw [List.length_append]; rfl
          · rw [intL_append, List.length_append]
          · show BdL (acc ++ l).length k
            rw [List.length_append]; exact bdL_step hl hl1

theorem walk_spec (w0 : World) (hw : PowOk w0) (p : Nat) (A : Ar) (hA : A.Ok) : ∀ (d : Nat), d + 1 ≤ 4 → WalkS w0 p A (d + 1)
  | 0, hd => walk_step w0 hw p A hA 0 hd (fun h => absurd rfl h)
  | d + 1, hd => walk_step w0 hw p A hA (d + 1) hd (fun _ => walk_spec w0 hw p A hA d (by omega))
end Go.Proofs.YtilnknokgflkjaaDoor

/- Array's Walk. -/
namespace Sim
open Go Go.Vc
def Ar.walkAll (A : Ar) (s : Sp) : List Int × Int × Sp :=
  if (A.many s).2.2.1 then
    if (A.many s).1 = 0 then ([], 0, (A.many s).2.2.2) else
    match A.walk (A.many s).2.1.toNat A.root (A.many s).1 (A.many s).2.2.2 with
    | (none, t) => ([], 24, t)
    | (some l, t) => (l, 0, t)
  else ([], 24, (A.many s).2.2.2)
theorem sm_walkAll {A : Ar} {s : Sp} {j : Nat} (h : Sm s j) : Sm (A.walkAll s).2.2 j := by
  unfold Ar.walkAll
  split
  · split
    · exact sm_many h
    · have := sm_walk (A := A) (A.many s).2.1.toNat A.root (A.many s).1 (A.many s).2.2.2 (sm_many h)
      split
      · rename_i t ht; rw [ht] at this; exact this
      · rename_i l t ht; rw [ht] at this; exact this
  · exact sm_many h
end Sim
namespace Go.Proofs.YtilnknokgflkjaaDoor
open Go.Vc Sim
set_option maxHeartbeats 4000000
def listR (p : Nat) (r : List Int × Int × Sp) (v : Value) (Γ : List Asn) : Prop :=
  ∃ a cap, v = .tuple #[.slice a r.1.length cap, .int .i64 r.2.1] ∧ Γ = [SpaceA p r.2.2, SlA 2 1 a r.1.length cap (intL r.1)]

theorem walkAll_spec (w0 : World) (hw : PowOk w0) (p : Nat) (A : Ar) (hA : A.Ok) (s : Sp) (hsm : Sm s 0) :
    Vc.Fn PP w0 [] 19 [arrV A, spP p] [SpaceA p s] (listR p (A.walkAll s)) := by
  obtain ⟨_, h1, h2⟩ := id hA
  generalize hm : A.many s = m
  have hsm2 : Sm m.2.2.2 0 := hm ▸ sm_many hsm
  have hM := many_spec w0 hw p A hA s hsm
  rw [hm] at hM
  have hmo := many_ok (A := A) (s := s)
  rw [hm] at hmo
  refine fn_of_run en19 fn19 rfl rfl rfl ?_ -- @@FN 19
  repeat (first | refine run_seq ?_ | refine run_block ?_ | refine run_skip ?_ | refine run_inBlock ?_)
  first | refine run_region (by kernel_rfl) ?_ | refine run_drawA PP_mixed (by kernel_rfl) (by kernel_rfl) ?_
  repeat' (refine reg_cons rfl ?_; first
        | ((with_reducible refine tag_move ?_); refine reg_pure rfl ?_)
        | ((with_reducible refine tag_assign ?_); refine reg_pure rfl ?_)
        | ((with_reducible refine tag_load ?_); first | refine reg_load_sh 0 rfl rfl rfl ?_ | refine reg_load_sh 1 rfl rfl rfl ?_ | refine reg_load_sh 2 rfl rfl rfl ?_ | refine reg_load_sh 3 rfl rfl rfl ?_ | refine reg_load_sh 4 rfl rfl rfl ?_ | refine reg_load_sh 5 rfl rfl rfl ?_ | refine reg_load_pt 0 rfl rfl rfl ?_ | refine reg_load_pt 1 rfl rfl rfl ?_ | refine reg_load_pt 2 rfl rfl rfl ?_ | refine reg_load_pt 3 rfl rfl rfl ?_ | refine reg_load_pt 4 rfl rfl rfl ?_ | refine reg_load_pt 5 rfl rfl rfl ?_)
        | ((with_reducible refine tag_field ?_); refine reg_field rfl ?_)
        | ((with_reducible refine tag_extract ?_); refine reg_pure rfl ?_)
        | ((with_reducible refine tag_bin ?_); first | refine reg_add64 rfl rfl (by omega) ?_ | refine reg_eql rfl rfl ?_ | refine reg_eq_nil rfl rfl ?_ | refine reg_eqB rfl rfl ?_)
        | ((with_reducible refine tag_un ?_); first | refine reg_not rfl ?_ | refine reg_notB rfl ?_)
        | ((with_reducible refine tag_box ?_); first | refine reg_box (cs := [_]) rfl (fun nb => ?_) | refine reg_box (cs := [_, _]) rfl (fun nb => ?_) | refine reg_box (cs := [_, _, _]) rfl (fun nb => ?_) | refine reg_box (cs := [_, _, _, _]) rfl (fun nb => ?_) | refine reg_box (cs := [_, _, _, _, _]) rfl (fun nb => ?_) | refine reg_box (cs := [_, _, _, _, _, _]) rfl (fun nb => ?_) | refine reg_box (cs := [_, _, _, _, _, _, _]) rfl (fun nb => ?_) | refine reg_box (cs := [_, _, _, _, _, _, _, _]) rfl (fun nb => ?_)))
  all_goals refine reg_nil ?_
  all_goals repeat (first | refine run_seq ?_ | refine run_block ?_ | refine run_skip ?_ | refine run_inBlock ?_)
  refine run_share [1] rfl ?_
  repeat (first | refine run_seq ?_ | refine run_block ?_ | refine run_skip ?_ | refine run_inBlock ?_)
  first | refine run_region (by kernel_rfl) ?_ | refine run_drawA PP_mixed (by kernel_rfl) (by kernel_rfl) ?_
  repeat' (refine reg_cons rfl ?_; first
        | ((with_reducible refine tag_move ?_); refine reg_pure rfl ?_)
        | ((with_reducible refine tag_assign ?_); refine reg_pure rfl ?_)
        | ((with_reducible refine tag_load ?_); first | refine reg_load_sh 0 rfl rfl rfl ?_ | refine reg_load_sh 1 rfl rfl rfl ?_ | refine reg_load_sh 2 rfl rfl rfl ?_ | refine reg_load_sh 3 rfl rfl rfl ?_ | refine reg_load_sh 4 rfl rfl rfl ?_ | refine reg_load_sh 5 rfl rfl rfl ?_ | refine reg_load_pt 0 rfl rfl rfl ?_ | refine reg_load_pt 1 rfl rfl rfl ?_ | refine reg_load_pt 2 rfl rfl rfl ?_ | refine reg_load_pt 3 rfl rfl rfl ?_ | refine reg_load_pt 4 rfl rfl rfl ?_ | refine reg_load_pt 5 rfl rfl rfl ?_)
        | ((with_reducible refine tag_call ?_); refine reg_callE [0] hM rfl rfl rfl sub_nil rfl ?_)
        | ((with_reducible refine tag_field ?_); refine reg_field rfl ?_)
        | ((with_reducible refine tag_extract ?_); refine reg_pure rfl ?_)
        | ((with_reducible refine tag_bin ?_); first | refine reg_add64 rfl rfl (by omega) ?_ | refine reg_eql rfl rfl ?_ | refine reg_eq_nil rfl rfl ?_ | refine reg_eqB rfl rfl ?_)
        | ((with_reducible refine tag_un ?_); first | refine reg_not rfl ?_ | refine reg_notB rfl ?_)
        | ((with_reducible refine tag_box ?_); first | refine reg_box (cs := [_]) rfl (fun nb => ?_) | refine reg_box (cs := [_, _]) rfl (fun nb => ?_) | refine reg_box (cs := [_, _, _]) rfl (fun nb => ?_) | refine reg_box (cs := [_, _, _, _]) rfl (fun nb => ?_) | refine reg_box (cs := [_, _, _, _, _]) rfl (fun nb => ?_) | refine reg_box (cs := [_, _, _, _, _, _]) rfl (fun nb => ?_) | refine reg_box (cs := [_, _, _, _, _, _, _]) rfl (fun nb => ?_) | refine reg_box (cs := [_, _, _, _, _, _, _, _]) rfl (fun nb => ?_)))
  all_goals refine reg_nil ?_
  all_goals repeat (first | refine run_seq ?_ | refine run_block ?_ | refine run_skip ?_ | refine run_inBlock ?_)
  repeat (first | refine run_seq ?_ | refine run_block ?_ | refine run_skip ?_ | refine run_inBlock ?_)
  first | refine run_region (by kernel_rfl) ?_ | refine run_drawA PP_mixed (by kernel_rfl) (by kernel_rfl) ?_
  repeat' (refine reg_cons rfl ?_; first
        | ((with_reducible refine tag_move ?_); refine reg_pure rfl ?_)
        | ((with_reducible refine tag_assign ?_); refine reg_pure rfl ?_)
        | ((with_reducible refine tag_load ?_); first | refine reg_load_sh 0 rfl rfl rfl ?_ | refine reg_load_sh 1 rfl rfl rfl ?_ | refine reg_load_sh 2 rfl rfl rfl ?_ | refine reg_load_sh 3 rfl rfl rfl ?_ | refine reg_load_sh 4 rfl rfl rfl ?_ | refine reg_load_sh 5 rfl rfl rfl ?_ | refine reg_load_pt 0 rfl rfl rfl ?_ | refine reg_load_pt 1 rfl rfl rfl ?_ | refine reg_load_pt 2 rfl rfl rfl ?_ | refine reg_load_pt 3 rfl rfl rfl ?_ | refine reg_load_pt 4 rfl rfl rfl ?_ | refine reg_load_pt 5 rfl rfl rfl ?_)
        | ((with_reducible refine tag_field ?_); refine reg_field rfl ?_)
        | ((with_reducible refine tag_extract ?_); refine reg_pure rfl ?_)
        | ((with_reducible refine tag_bin ?_); first | refine reg_add64 rfl rfl (by omega) ?_ | refine reg_eql rfl rfl ?_ | refine reg_eq_nil rfl rfl ?_ | refine reg_eqB rfl rfl ?_)
        | ((with_reducible refine tag_un ?_); first | refine reg_not rfl ?_ | refine reg_notB rfl ?_)
        | ((with_reducible refine tag_box ?_); first | refine reg_box (cs := [_]) rfl (fun nb => ?_) | refine reg_box (cs := [_, _]) rfl (fun nb => ?_) | refine reg_box (cs := [_, _, _]) rfl (fun nb => ?_) | refine reg_box (cs := [_, _, _, _]) rfl (fun nb => ?_) | refine reg_box (cs := [_, _, _, _, _]) rfl (fun nb => ?_) | refine reg_box (cs := [_, _, _, _, _, _]) rfl (fun nb => ?_) | refine reg_box (cs := [_, _, _, _, _, _, _]) rfl (fun nb => ?_) | refine reg_box (cs := [_, _, _, _, _, _, _, _]) rfl (fun nb => ?_)))
  all_goals refine reg_nil ?_
  all_goals repeat (first | refine run_seq ?_ | refine run_block ?_ | refine run_skip ?_ | refine run_inBlock ?_)
  refine run_slots [(1, spP p), (2, .pointer (some ⟨nb, 0, none⟩)), (6, .int .i64 m.1), (7, .int .i64 m.2.1), (8, .bool m.2.2.1), (17, .bool (!m.2.2.1))] ⟨rfl, rfl, rfl, rfl, rfl, rfl, trivial⟩ (fun junk => ?_)
  refine run_condV rfl (fun hE => ?_) (fun hE => ?_)
  · have hE : m.2.2.1 = false := by simpa using hE
    have e : A.walkAll s = ([], 24, m.2.2.2) := by simp [Ar.walkAll, hm, hE]
    repeat' (first
      | refine run_seq ?_
      | refine run_region (by kernel_rfl) ?_
      | refine run_drawA PP_mixed (by kernel_rfl) (by kernel_rfl) ?_
      | refine run_skip ?_
      | refine run_block ?_
      | refine run_inBlock ?_
      | refine run_inLoop ?_
      | refine run_exit rfl ?_
      | (refine reg_cons rfl ?_; first
          | ((with_reducible refine tag_move ?_); refine reg_pure rfl ?_)
          | ((with_reducible refine tag_assign ?_); refine reg_pure rfl ?_)
          | ((with_reducible refine tag_load ?_); first | refine reg_load_sh 0 rfl rfl rfl ?_ | refine reg_load_sh 1 rfl rfl rfl ?_ | refine reg_load_sh 2 rfl rfl rfl ?_ | refine reg_load_sh 3 rfl rfl rfl ?_ | refine reg_load_sh 4 rfl rfl rfl ?_ | refine reg_load_sh 5 rfl rfl rfl ?_ | refine reg_load_pt 0 rfl rfl rfl ?_ | refine reg_load_pt 1 rfl rfl rfl ?_ | refine reg_load_pt 2 rfl rfl rfl ?_ | refine reg_load_pt 3 rfl rfl rfl ?_ | refine reg_load_pt 4 rfl rfl rfl ?_ | refine reg_load_pt 5 rfl rfl rfl ?_)
          | ((with_reducible refine tag_field ?_); refine reg_field rfl ?_)
          | ((with_reducible refine tag_extract ?_); refine reg_pure rfl ?_)
          | ((with_reducible refine tag_bin ?_); first | refine reg_add64 rfl rfl (by omega) ?_ | refine reg_eql rfl rfl ?_ | refine reg_eq_nil rfl rfl ?_ | refine reg_eqB rfl rfl ?_)
          | ((with_reducible refine tag_un ?_); first | refine reg_not rfl ?_ | refine reg_notB rfl ?_)
          | ((with_reducible refine tag_box ?_); first | refine reg_box (cs := [_]) rfl (fun nb => ?_) | refine reg_box (cs := [_, _]) rfl (fun nb => ?_) | refine reg_box (cs := [_, _, _]) rfl (fun nb => ?_) | refine reg_box (cs := [_, _, _, _]) rfl (fun nb => ?_) | refine reg_box (cs := [_, _, _, _, _]) rfl (fun nb => ?_) | refine reg_box (cs := [_, _, _, _, _, _]) rfl (fun nb => ?_) | refine reg_box (cs := [_, _, _, _, _, _, _]) rfl (fun nb => ?_) | refine reg_box (cs := [_, _, _, _, _, _, _, _]) rfl (fun nb => ?_)))
      | refine reg_nil ?_
      | refine run_condT rfl ?_
      | refine run_condF rfl ?_)
    rw [e]
    refine run_nilslice 2 1 ?_
    exact ret_tmp2 rfl ⟨none, 0, rfl, rfl⟩
  · have hE : m.2.2.1 = true := by simpa using hE
    obtain ⟨_, hn0, hn1, hn2⟩ := hmo hE
    repeat (first | refine run_seq ?_ | refine run_block ?_ | refine run_skip ?_ | refine run_inBlock ?_)
    first | refine run_region (by kernel_rfl) ?_ | refine run_drawA PP_mixed (by kernel_rfl) (by kernel_rfl) ?_
    repeat' (refine reg_cons rfl ?_; first
          | ((with_reducible refine tag_move ?_); refine reg_pure rfl ?_)
          | ((with_reducible refine tag_assign ?_); refine reg_pure rfl ?_)
          | ((with_reducible refine tag_load ?_); first | refine reg_load_sh 0 rfl rfl rfl ?_ | refine reg_load_sh 1 rfl rfl rfl ?_ | refine reg_load_sh 2 rfl rfl rfl ?_ | refine reg_load_sh 3 rfl rfl rfl ?_ | refine reg_load_sh 4 rfl rfl rfl ?_ | refine reg_load_sh 5 rfl rfl rfl ?_ | refine reg_load_pt 0 rfl rfl rfl ?_ | refine reg_load_pt 1 rfl rfl rfl ?_ | refine reg_load_pt 2 rfl rfl rfl ?_ | refine reg_load_pt 3 rfl rfl rfl ?_ | refine reg_load_pt 4 rfl rfl rfl ?_ | refine reg_load_pt 5 rfl rfl rfl ?_)
          | ((with_reducible refine tag_field ?_); refine reg_field rfl ?_)
          | ((with_reducible refine tag_extract ?_); refine reg_pure rfl ?_)
          | ((with_reducible refine tag_bin ?_); first | refine reg_add64 rfl rfl (by omega) ?_ | refine reg_eql rfl rfl ?_ | refine reg_eq_nil rfl rfl ?_ | refine reg_eqB rfl rfl ?_)
          | ((with_reducible refine tag_un ?_); first | refine reg_not rfl ?_ | refine reg_notB rfl ?_)
          | ((with_reducible refine tag_box ?_); first | refine reg_box (cs := [_]) rfl (fun nb => ?_) | refine reg_box (cs := [_, _]) rfl (fun nb => ?_) | refine reg_box (cs := [_, _, _]) rfl (fun nb => ?_) | refine reg_box (cs := [_, _, _, _]) rfl (fun nb => ?_) | refine reg_box (cs := [_, _, _, _, _]) rfl (fun nb => ?_) | refine reg_box (cs := [_, _, _, _, _, _]) rfl (fun nb => ?_) | refine reg_box (cs := [_, _, _, _, _, _, _]) rfl (fun nb => ?_) | refine reg_box (cs := [_, _, _, _, _, _, _, _]) rfl (fun nb => ?_)))
    all_goals refine reg_nil ?_
    all_goals repeat (first | refine run_seq ?_ | refine run_block ?_ | refine run_skip ?_ | refine run_inBlock ?_)
    refine run_cond rfl (fun hZ => ?_) (fun hZ => ?_)
    · have e : A.walkAll s = ([], 0, m.2.2.2) := by simp [Ar.walkAll, hm, hE, hZ]
      repeat' (first
        | refine run_seq ?_
        | refine run_region (by kernel_rfl) ?_
        | refine run_drawA PP_mixed (by kernel_rfl) (by kernel_rfl) ?_
        | refine run_skip ?_
        | refine run_block ?_
        | refine run_inBlock ?_
        | refine run_inLoop ?_
        | refine run_exit rfl ?_
        | (refine reg_cons rfl ?_; first
            | ((with_reducible refine tag_move ?_); refine reg_pure rfl ?_)
            | ((with_reducible refine tag_assign ?_); refine reg_pure rfl ?_)
            | ((with_reducible refine tag_load ?_); first | refine reg_load_sh 0 rfl rfl rfl ?_ | refine reg_load_sh 1 rfl rfl rfl ?_ | refine reg_load_sh 2 rfl rfl rfl ?_ | refine reg_load_sh 3 rfl rfl rfl ?_ | refine reg_load_sh 4 rfl rfl rfl ?_ | refine reg_load_sh 5 rfl rfl rfl ?_ | refine reg_load_pt 0 rfl rfl rfl ?_ | refine reg_load_pt 1 rfl rfl rfl ?_ | refine reg_load_pt 2 rfl rfl rfl ?_ | refine reg_load_pt 3 rfl rfl rfl ?_ | refine reg_load_pt 4 rfl rfl rfl ?_ | refine reg_load_pt 5 rfl rfl rfl ?_)
            | ((with_reducible refine tag_field ?_); refine reg_field rfl ?_)
            | ((with_reducible refine tag_extract ?_); refine reg_pure rfl ?_)
            | ((with_reducible refine tag_bin ?_); first | refine reg_add64 rfl rfl (by omega) ?_ | refine reg_eql rfl rfl ?_ | refine reg_eq_nil rfl rfl ?_ | refine reg_eqB rfl rfl ?_)
            | ((with_reducible refine tag_un ?_); first | refine reg_not rfl ?_ | refine reg_notB rfl ?_)
            | ((with_reducible refine tag_box ?_); first | refine reg_box (cs := [_]) rfl (fun nb => ?_) | refine reg_box (cs := [_, _]) rfl (fun nb => ?_) | refine reg_box (cs := [_, _, _]) rfl (fun nb => ?_) | refine reg_box (cs := [_, _, _, _]) rfl (fun nb => ?_) | refine reg_box (cs := [_, _, _, _, _]) rfl (fun nb => ?_) | refine reg_box (cs := [_, _, _, _, _, _]) rfl (fun nb => ?_) | refine reg_box (cs := [_, _, _, _, _, _, _]) rfl (fun nb => ?_) | refine reg_box (cs := [_, _, _, _, _, _, _, _]) rfl (fun nb => ?_)))
        | refine reg_nil ?_
        | refine run_condT rfl ?_
        | refine run_condF rfl ?_)
      rw [e]
      refine run_nilslice 2 1 ?_
      exact ret_tmp2 rfl ⟨none, 0, rfl, rfl⟩
    · have hd4 := dep_le m.1
      obtain ⟨d, hd⟩ : ∃ d, dep m.1 = d + 1 := ⟨dep m.1 - 1, by
        have : 0 < dep m.1 := by unfold dep; (repeat' split) <;> omega
        omega⟩
      have hR := walk_spec w0 hw p A hA d (by omega) m.2.1 (by omega) A.root m.1 (by omega) (by omega) m.2.2.2 hsm2
      have hdd : m.2.1.toNat = d + 1 := by omega
      generalize hW : A.walk (d + 1) A.root m.1 m.2.2.2 = W at hR
      obtain ⟨o, t⟩ := W
      cases o with
      | none =>
        have hRn : FnE PP w0 [] 39 [arrV A, spP p, .int .i64 A.root, .int .i64 m.2.1, .int .i64 m.1] [SpaceA p m.2.2.2] (.tuple #[.slice none 0 0, .bool false]) [SpaceA p t] := hR
        have e : A.walkAll s = ([], 24, t) := by simp only [Ar.walkAll, hm]; rw [if_pos hE, if_neg hZ, hdd, hW]
        repeat' (first
          | refine run_seq ?_
          | refine run_region (by kernel_rfl) ?_
          | refine run_drawA PP_mixed (by kernel_rfl) (by kernel_rfl) ?_
          | refine run_skip ?_
          | refine run_block ?_
          | refine run_inBlock ?_
          | refine run_inLoop ?_
          | refine run_exit rfl ?_
          | (refine reg_cons rfl ?_; first
              | (refine reg_add64 rfl rfl (by omega) ?_; rw [Int.add_zero])
              | ((with_reducible refine tag_move ?_); refine reg_pure rfl ?_)
              | ((with_reducible refine tag_assign ?_); refine reg_pure rfl ?_)
              | ((with_reducible refine tag_load ?_); first | refine reg_load_sh 0 rfl rfl rfl ?_ | refine reg_load_sh 1 rfl rfl rfl ?_ | refine reg_load_sh 2 rfl rfl rfl ?_ | refine reg_load_sh 3 rfl rfl rfl ?_ | refine reg_load_sh 4 rfl rfl rfl ?_ | refine reg_load_sh 5 rfl rfl rfl ?_ | refine reg_load_pt 0 rfl rfl rfl ?_ | refine reg_load_pt 1 rfl rfl rfl ?_ | refine reg_load_pt 2 rfl rfl rfl ?_ | refine reg_load_pt 3 rfl rfl rfl ?_ | refine reg_load_pt 4 rfl rfl rfl ?_ | refine reg_load_pt 5 rfl rfl rfl ?_)
              | ((with_reducible refine tag_call ?_); refine reg_callE [0] hRn rfl rfl rfl sub_nil rfl ?_)
              | ((with_reducible refine tag_field ?_); refine reg_field rfl ?_)
              | ((with_reducible refine tag_extract ?_); refine reg_pure rfl ?_)
              | ((with_reducible refine tag_bin ?_); first | refine reg_add64 rfl rfl (by omega) ?_ | refine reg_eql rfl rfl ?_ | refine reg_eq_nil rfl rfl ?_ | refine reg_eqB rfl rfl ?_)
              | ((with_reducible refine tag_un ?_); first | refine reg_not rfl ?_ | refine reg_notB rfl ?_)
              | ((with_reducible refine tag_box ?_); first | refine reg_box (cs := [_]) rfl (fun nb => ?_) | refine reg_box (cs := [_, _]) rfl (fun nb => ?_) | refine reg_box (cs := [_, _, _]) rfl (fun nb => ?_) | refine reg_box (cs := [_, _, _, _]) rfl (fun nb => ?_) | refine reg_box (cs := [_, _, _, _, _]) rfl (fun nb => ?_) | refine reg_box (cs := [_, _, _, _, _, _]) rfl (fun nb => ?_) | refine reg_box (cs := [_, _, _, _, _, _, _]) rfl (fun nb => ?_) | refine reg_box (cs := [_, _, _, _, _, _, _, _]) rfl (fun nb => ?_)))
          | refine reg_nil ?_
          | refine run_condT rfl ?_
          | refine run_condF rfl ?_)
        rw [e]
        refine run_nilslice 2 1 ?_
        exact ret_tmp2 rfl ⟨none, 0, rfl, rfl⟩
      | some l =>
        have e : A.walkAll s = (l, 0, t) := by simp only [Ar.walkAll, hm]; rw [if_pos hE, if_neg hZ, hdd, hW]
        repeat (first | refine run_seq ?_ | refine run_block ?_ | refine run_skip ?_ | refine run_inBlock ?_)
        first | refine run_region (by kernel_rfl) ?_ | refine run_drawA PP_mixed (by kernel_rfl) (by kernel_rfl) ?_
        repeat' (refine reg_cons rfl ?_; first
              | (refine reg_add64 rfl rfl (by omega) ?_; rw [Int.add_zero])
              | (refine reg_call [0] hR rfl rfl rfl sub_nil ?_; rintro v Γ' ⟨a2, cap2, rfl, rfl⟩)
              | ((with_reducible refine tag_move ?_); refine reg_pure rfl ?_)
              | ((with_reducible refine tag_assign ?_); refine reg_pure rfl ?_)
              | ((with_reducible refine tag_load ?_); first | refine reg_load_sh 0 rfl rfl rfl ?_ | refine reg_load_sh 1 rfl rfl rfl ?_ | refine reg_load_sh 2 rfl rfl rfl ?_ | refine reg_load_sh 3 rfl rfl rfl ?_ | refine reg_load_sh 4 rfl rfl rfl ?_ | refine reg_load_sh 5 rfl rfl rfl ?_ | refine reg_load_pt 0 rfl rfl rfl ?_ | refine reg_load_pt 1 rfl rfl rfl ?_ | refine reg_load_pt 2 rfl rfl rfl ?_ | refine reg_load_pt 3 rfl rfl rfl ?_ | refine reg_load_pt 4 rfl rfl rfl ?_ | refine reg_load_pt 5 rfl rfl rfl ?_)
              | ((with_reducible refine tag_field ?_); refine reg_field rfl ?_)
              | ((with_reducible refine tag_extract ?_); refine reg_pure rfl ?_)
              | ((with_reducible refine tag_bin ?_); first | refine reg_add64 rfl rfl (by omega) ?_ | refine reg_eql rfl rfl ?_ | refine reg_eq_nil rfl rfl ?_ | refine reg_eqB rfl rfl ?_)
              | ((with_reducible refine tag_un ?_); first | refine reg_not rfl ?_ | refine reg_notB rfl ?_)
              | ((with_reducible refine tag_box ?_); first | refine reg_box (cs := [_]) rfl (fun nb => ?_) | refine reg_box (cs := [_, _]) rfl (fun nb => ?_) | refine reg_box (cs := [_, _, _]) rfl (fun nb => ?_) | refine reg_box (cs := [_, _, _, _]) rfl (fun nb => ?_) | refine reg_box (cs := [_, _, _, _, _]) rfl (fun nb => ?_) | refine reg_box (cs := [_, _, _, _, _, _]) rfl (fun nb => ?_) | refine reg_box (cs := [_, _, _, _, _, _, _]) rfl (fun nb => ?_) | refine reg_box (cs := [_, _, _, _, _, _, _, _]) rfl (fun nb => ?_)))
        all_goals refine reg_nil ?_
        all_goals repeat (first | refine run_seq ?_ | refine run_block ?_ | refine run_skip ?_ | refine run_inBlock ?_)
        repeat (first | refine run_seq ?_ | refine run_block ?_ | refine run_skip ?_ | refine run_inBlock ?_)
        first | refine run_region (by kernel_rfl) ?_ | refine run_drawA PP_mixed (by kernel_rfl) (by kernel_rfl) ?_
        repeat' (refine reg_cons rfl ?_; first
              | ((with_reducible refine tag_move ?_); refine reg_pure rfl ?_)
              | ((with_reducible refine tag_assign ?_); refine reg_pure rfl ?_)
              | ((with_reducible refine tag_load ?_); first | refine reg_load_sh 0 rfl rfl rfl ?_ | refine reg_load_sh 1 rfl rfl rfl ?_ | refine reg_load_sh 2 rfl rfl rfl ?_ | refine reg_load_sh 3 rfl rfl rfl ?_ | refine reg_load_sh 4 rfl rfl rfl ?_ | refine reg_load_sh 5 rfl rfl rfl ?_ | refine reg_load_pt 0 rfl rfl rfl ?_ | refine reg_load_pt 1 rfl rfl rfl ?_ | refine reg_load_pt 2 rfl rfl rfl ?_ | refine reg_load_pt 3 rfl rfl rfl ?_ | refine reg_load_pt 4 rfl rfl rfl ?_ | refine reg_load_pt 5 rfl rfl rfl ?_)
              | ((with_reducible refine tag_field ?_); refine reg_field rfl ?_)
              | ((with_reducible refine tag_extract ?_); refine reg_pure rfl ?_)
              | ((with_reducible refine tag_bin ?_); first | refine reg_add64 rfl rfl (by omega) ?_ | refine reg_eql rfl rfl ?_ | refine reg_eq_nil rfl rfl ?_ | refine reg_eqB rfl rfl ?_)
              | ((with_reducible refine tag_un ?_); first | refine reg_not rfl ?_ | refine reg_notB rfl ?_)
              | ((with_reducible refine tag_box ?_); first | refine reg_box (cs := [_]) rfl (fun nb => ?_) | refine reg_box (cs := [_, _]) rfl (fun nb => ?_) | refine reg_box (cs := [_, _, _]) rfl (fun nb => ?_) | refine reg_box (cs := [_, _, _, _]) rfl (fun nb => ?_) | refine reg_box (cs := [_, _, _, _, _]) rfl (fun nb => ?_) | refine reg_box (cs := [_, _, _, _, _, _]) rfl (fun nb => ?_) | refine reg_box (cs := [_, _, _, _, _, _, _]) rfl (fun nb => ?_) | refine reg_box (cs := [_, _, _, _, _, _, _, _]) rfl (fun nb => ?_)))
        all_goals refine reg_nil ?_
        all_goals repeat (first | refine run_seq ?_ | refine run_block ?_ | refine run_skip ?_ | refine run_inBlock ?_)
        refine run_condF rfl ?_
        repeat' (first
          | refine run_seq ?_
          | refine run_region (by kernel_rfl) ?_
          | refine run_drawA PP_mixed (by kernel_rfl) (by kernel_rfl) ?_
          | refine run_skip ?_
          | refine run_block ?_
          | refine run_inBlock ?_
          | refine run_inLoop ?_
          | refine run_exit rfl ?_
          | (refine reg_cons rfl ?_; first
              | ((with_reducible refine tag_move ?_); refine reg_pure rfl ?_)
              | ((with_reducible refine tag_assign ?_); refine reg_pure rfl ?_)
              | ((with_reducible refine tag_load ?_); first | refine reg_load_sh 0 rfl rfl rfl ?_ | refine reg_load_sh 1 rfl rfl rfl ?_ | refine reg_load_sh 2 rfl rfl rfl ?_ | refine reg_load_sh 3 rfl rfl rfl ?_ | refine reg_load_sh 4 rfl rfl rfl ?_ | refine reg_load_sh 5 rfl rfl rfl ?_ | refine reg_load_pt 0 rfl rfl rfl ?_ | refine reg_load_pt 1 rfl rfl rfl ?_ | refine reg_load_pt 2 rfl rfl rfl ?_ | refine reg_load_pt 3 rfl rfl rfl ?_ | refine reg_load_pt 4 rfl rfl rfl ?_ | refine reg_load_pt 5 rfl rfl rfl ?_)
              | ((with_reducible refine tag_field ?_); refine reg_field rfl ?_)
              | ((with_reducible refine tag_extract ?_); refine reg_pure rfl ?_)
              | ((with_reducible refine tag_bin ?_); first | refine reg_add64 rfl rfl (by omega) ?_ | refine reg_eql rfl rfl ?_ | refine reg_eq_nil rfl rfl ?_ | refine reg_eqB rfl rfl ?_)
              | ((with_reducible refine tag_un ?_); first | refine reg_not rfl ?_ | refine reg_notB rfl ?_)
              | ((with_reducible refine tag_box ?_); first | refine reg_box (cs := [_]) rfl (fun nb => ?_) | refine reg_box (cs := [_, _]) rfl (fun nb => ?_) | refine reg_box (cs := [_, _, _]) rfl (fun nb => ?_) | refine reg_box (cs := [_, _, _, _]) rfl (fun nb => ?_) | refine reg_box (cs := [_, _, _, _, _]) rfl (fun nb => ?_) | refine reg_box (cs := [_, _, _, _, _, _]) rfl (fun nb => ?_) | refine reg_box (cs := [_, _, _, _, _, _, _]) rfl (fun nb => ?_) | refine reg_box (cs := [_, _, _, _, _, _, _, _]) rfl (fun nb => ?_)))
          | refine reg_nil ?_
          | refine run_condT rfl ?_
          | refine run_condF rfl ?_)
        rw [e]
        exact ret_tmp2 rfl ⟨a2, cap2, rfl, rfl⟩

end Go.Proofs.YtilnknokgflkjaaDoor

/- The plain model of package array: Push. -/
namespace Sim
open Go Go.Vc
def Ar.grow (A : Ar) (n : Int) (d : Nat) (s : Sp) : Int × Sp :=
  let c := if 0 < d then A.node (s.get A.root).2 A.root else (0, true, (s.get A.root).2)
  if c.2.1 then
    let t := A.take c.2.2
    if t.2.1 = 0 then (0, ((if 0 < d then t.2.2.put t.1 (s.get A.root).1 else t.2.2).put A.root t.1).put (A.root + 2) (dep (n + 1)))
    else (t.2.1, t.2.2)
  else (24, c.2.2)
def Ar.add (A : Ar) (n : Int) (d : Nat) (cell : Int) (s : Sp) : Int × Sp :=
  if n % pw (d - 1) = 0 then
    let t := A.take s
    if t.2.1 = 0 then (0, t.2.2.put cell t.1) else (t.2.1, t.2.2)
  else (0, s)
def Ar.down (A : Ar) (n : Int) : Nat → Int → Sp → Int × Int × Sp
  | 0, at_, s => (0, at_, s)
  | d + 1, at_, s =>
    if d = 0 then (0, at_, s) else
    let r := A.add n (d + 1) (at_ + dig n (d + 1)) s
    if r.1 = 0 then
      let q := A.node r.2 (at_ + dig n (d + 1))
      if q.2.1 then A.down n d q.1 q.2.2 else (24, 0, q.2.2)
    else (r.1, 0, r.2)
def Ar.rest (A : Ar) (n v : Int) (d : Nat) (s : Sp) : Int × Int × Sp :=
  let c := A.node s A.root
  if c.2.1 then
    let r := A.down n d c.1 c.2.2
    if r.1 = 0 then (n, 0, ((r.2.2.put (r.2.1 + dig n 1) v).put (A.root + 1) (n + 1))) else (0, r.1, r.2.2)
  else (0, 24, c.2.2)
def Ar.pushIn (A : Ar) (n v : Int) (d : Nat) (s : Sp) : Int × Int × Sp :=
  if d < dep (n + 1) then
    if (A.grow n d s).1 = 0 then A.rest n v (dep (n + 1)) (A.grow n d s).2 else (0, (A.grow n d s).1, (A.grow n d s).2)
  else A.rest n v d s
def Ar.undo (m : Int) (r : Int × Int × Sp) : Int × Int × Sp := (r.1, r.2.1, if r.2.1 ≠ 0 then r.2.2.back m else r.2.2)
def Ar.push (A : Ar) (s : Sp) (v : Int) : Int × Int × Sp :=
  let m := A.many s
  if m.2.2.1 then if m.1 = 4096 then (0, 9, m.2.2.2) else Ar.undo m.2.2.2.puts.length (A.pushIn m.1 v m.2.1.toNat m.2.2.2) else (0, 24, m.2.2.2)

theorem sm_grow {A : Ar} {n : Int} {d : Nat} {s : Sp} {j : Nat} (h : Sm s (j + 6)) : Sm (A.grow n d s).2 j := by
  have h1 : Sm (if 0 < d then A.node (s.get A.root).2 A.root else (0, true, (s.get A.root).2)).2.2 (j + 6) := by
    split
    · exact sm_node (sm_get h)
    · exact sm_get h
  simp only [Ar.grow]
  generalize (if 0 < d then A.node (s.get A.root).2 A.root else (0, true, (s.get A.root).2)) = c at h1
  by_cases hc : c.2.1 = true
  · rw [if_pos hc]
    have h2 := sm_take (A := A) (j := j + 3) h1
    by_cases ht : (A.take c.2.2).2.1 = 0
    · rw [if_pos ht]
      refine sm_put (sm_put ?_)
      split
      · exact sm_put h2
      · exact h2.mono (by omega)
    · rw [if_neg ht]; exact h2.mono (by omega)
  · rw [if_neg hc]; exact h1.mono (by omega)
theorem sm_aadd {A : Ar} {n : Int} {d : Nat} {c : Int} {s : Sp} {j : Nat} (h : Sm s (j + 4)) : Sm (A.add n d c s).2 j := by
  simp only [Ar.add]
  split
  · have h2 := sm_take (A := A) (j := j + 1) h
    split
    · exact sm_put h2
    · exact h2.mono (by omega)
  · exact h.mono (by omega)
theorem sm_down {A : Ar} {n : Int} : ∀ {d : Nat} {a : Int} {s : Sp} {j : Nat}, Sm s (j + 4 * d) → Sm (A.down n d a s).2.2 j
  | 0, a, s, j, h => h.mono (by omega)
  | d + 1, a, s, j, h => by
    simp only [Ar.down]
    split
    · exact h.mono (by omega)
    · have h2 := sm_aadd (A := A) (n := n) (d := d + 1) (c := a + dig n (d + 1)) (s := s) (j := j + 4 * d) (h.mono (by omega))
      split
      · split
        · exact sm_down (sm_node h2)
        · exact (sm_node h2).mono (by omega)
      · exact h2.mono (by omega)
theorem sm_rest {A : Ar} {n v : Int} {d : Nat} {s : Sp} {j : Nat} (h : Sm s (j + 2 + 4 * d)) : Sm (A.rest n v d s).2.2 j := by
  simp only [Ar.rest]
  split
  · have h2 := sm_down (A := A) (n := n) (d := d) (a := (A.node s A.root).1) (j := j + 2) (sm_node (A := A) (c := A.root) h)
    split
    · exact sm_put (sm_put h2)
    · exact h2.mono (by omega)
  · exact (sm_node h).mono (by omega)
theorem sm_push {A : Ar} {s : Sp} {v : Int} {j : Nat} (h : Sm s (j + 24)) : Sm (A.push s v).2.2 j := by
  have h1 := sm_many (A := A) h
  simp only [Ar.push]
  split
  · split
    · exact h1.mono (by omega)
    · have key : Sm (A.pushIn (A.many s).1 v (A.many s).2.1.toNat (A.many s).2.2.2).2.2 j := by
        have hm := many_ok (A := A) (s := s) ‹_›
        have hd := dep_le (A.many s).1
        simp only [Ar.pushIn]
        have hd2 := dep_le ((A.many s).1 + 1)
        split
        · have h2 := sm_grow (A := A) (n := (A.many s).1) (d := (A.many s).2.1.toNat) (j := j + 18) h1
          split
          · exact sm_rest (h2.mono (by omega))
          · exact h2.mono (by omega)
        · exact sm_rest (h1.mono (by omega))
      simp only [Ar.undo]
      split
      · exact sm_back key
      · exact key
  · exact h1.mono (by omega)
end Sim

