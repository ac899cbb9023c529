import Derived.OpenShut
import Derived.Test.YtijbnjaackhlcaaGreatDoorPart1
import Derived.Test.YtijbnjaackhlcaaGreatDoorKit
import Derived.Test.YtijbnjaackhlcaaGreatDoorPart3
/- Lemmas and walks for the claims of this seat (own work): Gp0 Rp1 Eo4 Eo5 Eo6 Rn1 Rn2 Eo7 Eo8 Ty0 Ty1 Ty2 Yp0. -/
namespace Go.Vc
open Sim
theorem RdEs.of {w0 : World} {sh : Shared} : ∀ {cl : List (List Value)}, (∀ c ∈ cl, c.length = 6 ∧ ∃ e : PE, RdE w0 sh e c ∧ e.sz) → ∃ l, RdEs w0 sh l cl ∧ PE.szL l
  | [], _ => ⟨[], by unfold RdEs; rfl, by unfold PE.szL; trivial⟩
  | c :: cl, h => by
    obtain ⟨_, e, h1, h2⟩ := h c (.head _)
    obtain ⟨l, h3, h4⟩ := RdEs.of fun c hc => h c (.tail _ hc)
    exact ⟨e :: l, by unfold RdEs; exact ⟨c, cl, rfl, h1, h3⟩, by unfold PE.szL; exact ⟨h2, h4⟩⟩
theorem RdSs.of {w0 : World} {sh : Shared} : ∀ {cl : List (List Value)}, (∀ c ∈ cl, c.length = 11 ∧ ∃ e : PS, RdS w0 sh e c ∧ e.sz) → ∃ l, RdSs w0 sh l cl ∧ PS.szL l
  | [], _ => ⟨[], by unfold RdSs; rfl, by unfold PS.szL; trivial⟩
  | c :: cl, h => by
    obtain ⟨_, e, h1, h2⟩ := h c (.head _)
    obtain ⟨l, h3, h4⟩ := RdSs.of fun c hc => h c (.tail _ hc)
    exact ⟨e :: l, by unfold RdSs; exact ⟨c, cl, rfl, h1, h3⟩, by unfold PS.szL; exact ⟨h2, h4⟩⟩
def PO.sz (o : PO) : Prop := szB o.name ∧ (∀ s ∈ o.params, szB s) ∧ o.params.length ≤ 1125899906842624 ∧ PS.szL o.body
theorem RdOs.of {w0 : World} {sh : Shared} : ∀ {cl : List (List Value)}, (∀ c ∈ cl, c.length = 3 ∧ ∃ e : PO, RdO w0 sh e c ∧ PO.sz e) → ∃ l, RdOs w0 sh l cl ∧ ∀ o ∈ l, PO.sz o
  | [], _ => ⟨[], rfl, fun o h => by simp at h⟩
  | c :: cl, h => by
    obtain ⟨_, e, h1, h2⟩ := h c (.head _)
    obtain ⟨l, h3, h4⟩ := RdOs.of fun c hc => h c (.tail _ hc)
    refine ⟨e :: l, ⟨c, cl, rfl, h1, h3⟩, fun o ho => ?_⟩
    rcases List.mem_cons.1 ho with rfl | ho
    · exact h2
    · exact h4 o ho
end Go.Vc
namespace Go.Proofs.YtijbnjaackhlcaaGreatDoor
open Go.Vc Sim
set_option maxRecDepth 100000
section
variable {H : Type} {enc : TypeId × Value → H} {w : World} {base : Nat} {spare : Nat → Bool} {held : Bool}
theorem in_pe : ∀ (n : Nat) (cs : List Value) (y : DataW H × List MemPlace), DataW.trod enc Tryz.prog w base spare held n 41 cs = some y → (∀ q ∈ y.1.weights Tryz.prog 41, q ≤ reachBytes) → cs.length = 6 ∧ ∃ e : PE, RdE w [] e cs ∧ e.sz := by
  intro n
  induction n using Nat.strongRecOn with
  | _ n ih =>
  intro cs y h hw
  obtain ⟨xs, n', hn', hy, hlen, hxl, hf⟩ := DataW.trod_struct Tryz.underlying41 h
  have cI : Tryz.prog.cellsOf 3 = 1 := by kernel_rfl
  have cI6 : Tryz.prog.cellsOf 2 = 1 := by kernel_rfl
  have cS : Tryz.prog.cellsOf 9 = 1 := by kernel_rfl
  have cL : Tryz.prog.cellsOf 39 = 1 := by kernel_rfl
  have c6 : Tryz.prog.cellsOf 41 = 6 := by kernel_rfl
  rw [c6] at hlen
  have f0 : DataW.trod enc Tryz.prog w base spare held n' 3 ((cs.drop 0).take (Tryz.prog.cellsOf 3)) = xs[0]? := hf 0 _ rfl
  have f1 : DataW.trod enc Tryz.prog w base spare held n' 2 ((cs.drop 1).take (Tryz.prog.cellsOf 2)) = xs[1]? := hf 1 _ rfl
  have f2 : DataW.trod enc Tryz.prog w base spare held n' 9 ((cs.drop 2).take (Tryz.prog.cellsOf 9)) = xs[2]? := hf 2 _ rfl
  have f3 : DataW.trod enc Tryz.prog w base spare held n' 9 ((cs.drop 3).take (Tryz.prog.cellsOf 9)) = xs[3]? := hf 3 _ rfl
  have f4 : DataW.trod enc Tryz.prog w base spare held n' 39 ((cs.drop 4).take (Tryz.prog.cellsOf 39)) = xs[4]? := hf 4 _ rfl
  have f5 : DataW.trod enc Tryz.prog w base spare held n' 39 ((cs.drop 5).take (Tryz.prog.cellsOf 39)) = xs[5]? := hf 5 _ rfl
  rw [cI] at f0
  rw [cI6] at f1
  rw [cS] at f2 f3
  rw [cL] at f4 f5
  match cs, hlen with
  | [a0, a1, a2, a3, a4, a5], _ =>
    match xs, hxl with
    | [y0, y1, y2, y3, y4, y5], _ =>
      have hwt : y.1.weights Tryz.prog 41 = y0.1.weights Tryz.prog 3 ++ (y1.1.weights Tryz.prog 2 ++ (y2.1.weights Tryz.prog 9 ++ (y3.1.weights Tryz.prog 9 ++ (y4.1.weights Tryz.prog 39 ++ (y5.1.weights Tryz.prog 39 ++ []))))) := by
        rw [hy]
        simp only [DataW.weights, Tryz.underlying41]
        rfl
      rw [hwt] at hw
      obtain ⟨k0, e0, _⟩ := DataW.trod_int Tryz.underlying3 (show DataW.trod _ _ _ _ _ _ n' _ [a0] = some y0 from f0)
      obtain ⟨k1, e1, _⟩ := DataW.trod_int Tryz.underlying2 (show DataW.trod _ _ _ _ _ _ n' _ [a1] = some y1 from f1)
      obtain ⟨s2, e2, z2⟩ := in_strW Tryz.underlying9 (show DataW.trod _ _ _ _ _ _ n' _ [a2] = some y2 from f2) (fun q hq => hw q (by simp [hq]))
      obtain ⟨s3, e3, z3⟩ := in_strW Tryz.underlying9 (show DataW.trod _ _ _ _ _ _ n' _ [a3] = some y3 from f3) (fun q hq => hw q (by simp [hq]))
      obtain ⟨v4, l4, e4, r4, p4, _⟩ := in_sliceF (fun c : List Value => c) (fun c => c.length = 6 ∧ ∃ e : PE, RdE w [] e c ∧ e.sz) Tryz.underlying39 c6 (by decide) (show DataW.trod _ _ _ _ _ _ n' _ [a4] = some y4 from f4) (fun q hq => hw q (by simp [hq])) (fun m hm cs y hy hq => ⟨cs, ih m (by omega) cs y hy hq, rfl⟩)
      obtain ⟨v5, l5, e5, r5, p5, _⟩ := in_sliceF (fun c : List Value => c) (fun c => c.length = 6 ∧ ∃ e : PE, RdE w [] e c ∧ e.sz) Tryz.underlying39 c6 (by decide) (show DataW.trod _ _ _ _ _ _ n' _ [a5] = some y5 from f5) (fun q hq => hw q (by simp [hq])) (fun m hm cs y hy hq => ⟨cs, ih m (by omega) cs y hy hq, rfl⟩)
      simp only [List.cons.injEq, and_true] at e0 e1 e2 e3 e4 e5
      subst e0; subst e1; subst e2; subst e3; subst e4; subst e5
      obtain ⟨xs4, q4, t4⟩ := RdEs.of p4
      obtain ⟨xs5, q5, t5⟩ := RdEs.of p5
      have hR : reachBytes = 140737488351232 := rfl
      refine ⟨rfl, .mk k0 k1 s2 s3 xs4 xs5, RdE.of (e := .mk k0 k1 s2 s3 xs4 xs5) ⟨l4, r4.rd, q4⟩ ⟨l5, r5.rd, q5⟩, ?_⟩
      unfold PE.sz szB
      exact ⟨by omega, by omega, t4, t5⟩
theorem in_ps : ∀ (n : Nat) (cs : List Value) (y : DataW H × List MemPlace), DataW.trod enc Tryz.prog w base spare held n 43 cs = some y → (∀ q ∈ y.1.weights Tryz.prog 43, q ≤ reachBytes) → cs.length = 11 ∧ ∃ e : PS, RdS w [] e cs ∧ e.sz := by
  intro n
  induction n using Nat.strongRecOn with
  | _ n ih =>
  intro cs y h hw
  obtain ⟨xs, n', hn', hy, hlen, hxl, hf⟩ := DataW.trod_struct Tryz.underlying43 h
  have c0 : Tryz.prog.cellsOf 3 = 1 := by kernel_rfl
  have c1 : Tryz.prog.cellsOf 9 = 1 := by kernel_rfl
  have c2 : Tryz.prog.cellsOf 2 = 1 := by kernel_rfl
  have c3 : Tryz.prog.cellsOf 41 = 6 := by kernel_rfl
  have c4 : Tryz.prog.cellsOf 32 = 1 := by kernel_rfl
  have cT : Tryz.prog.cellsOf 43 = 11 := by kernel_rfl
  rw [cT] at hlen
  have f0 : DataW.trod enc Tryz.prog w base spare held n' 3 ((cs.drop 0).take (Tryz.prog.cellsOf 3)) = xs[0]? := hf 0 _ rfl
  have f1 : DataW.trod enc Tryz.prog w base spare held n' 9 ((cs.drop 1).take (Tryz.prog.cellsOf 9)) = xs[1]? := hf 1 _ rfl
  have f2 : DataW.trod enc Tryz.prog w base spare held n' 2 ((cs.drop 2).take (Tryz.prog.cellsOf 2)) = xs[2]? := hf 2 _ rfl
  have f3 : DataW.trod enc Tryz.prog w base spare held n' 41 ((cs.drop 3).take (Tryz.prog.cellsOf 41)) = xs[3]? := hf 3 _ rfl
  have f4 : DataW.trod enc Tryz.prog w base spare held n' 32 ((cs.drop 9).take (Tryz.prog.cellsOf 32)) = xs[4]? := hf 4 _ rfl
  have f5 : DataW.trod enc Tryz.prog w base spare held n' 32 ((cs.drop 10).take (Tryz.prog.cellsOf 32)) = xs[5]? := hf 5 _ rfl
  rw [c0] at f0
  rw [c1] at f1
  rw [c2] at f2
  rw [c3] at f3
  rw [c4] at f4 f5
  match cs, hlen with
  | [a0, a1, a2, a3, a4, a5, a6, a7, a8, a9, a10], _ =>
    match xs, hxl with
    | [y0, y1, y2, y3, y4, y5], _ =>
      have hwt : y.1.weights Tryz.prog 43 = y0.1.weights Tryz.prog 3 ++ (y1.1.weights Tryz.prog 9 ++ (y2.1.weights Tryz.prog 2 ++ (y3.1.weights Tryz.prog 41 ++ (y4.1.weights Tryz.prog 32 ++ (y5.1.weights Tryz.prog 32 ++ []))))) := by
        rw [hy]
        simp only [DataW.weights, Tryz.underlying43]
        rfl
      rw [hwt] at hw
      obtain ⟨k0, e0, _⟩ := DataW.trod_int Tryz.underlying3 (show DataW.trod _ _ _ _ _ _ n' _ [a0] = some y0 from f0)
      obtain ⟨s1, e1, z1⟩ := in_strW Tryz.underlying9 (show DataW.trod _ _ _ _ _ _ n' _ [a1] = some y1 from f1) (fun q hq => hw q (by simp [hq]))
      obtain ⟨k2, e2, _⟩ := DataW.trod_int Tryz.underlying2 (show DataW.trod _ _ _ _ _ _ n' _ [a2] = some y2 from f2)
      obtain ⟨_, x3, r3, z3⟩ := in_pe n' _ _ (show DataW.trod _ _ _ _ _ _ n' _ [a3, a4, a5, a6, a7, a8] = some y3 from f3) (fun q hq => hw q (by simp [hq]))
      obtain ⟨v4, l4, e4, r4, p4, _⟩ := in_sliceF (fun c : List Value => c) (fun c => c.length = 11 ∧ ∃ e : PS, RdS w [] e c ∧ e.sz) Tryz.underlying32 cT (by decide) (show DataW.trod _ _ _ _ _ _ n' _ [a9] = some y4 from f4) (fun q hq => hw q (by simp [hq])) (fun m hm cs y hy hq => ⟨cs, ih m (by omega) cs y hy hq, rfl⟩)
      obtain ⟨v5, l5, e5, r5, p5, _⟩ := in_sliceF (fun c : List Value => c) (fun c => c.length = 11 ∧ ∃ e : PS, RdS w [] e c ∧ e.sz) Tryz.underlying32 cT (by decide) (show DataW.trod _ _ _ _ _ _ n' _ [a10] = some y5 from f5) (fun q hq => hw q (by simp [hq])) (fun m hm cs y hy hq => ⟨cs, ih m (by omega) cs y hy hq, rfl⟩)
      simp only [List.cons.injEq, and_true] at e0 e1 e2 e4 e5
      subst e0; subst e1; subst e2; subst e4; subst e5
      obtain ⟨xs4, q4, t4⟩ := RdSs.of p4
      obtain ⟨xs5, q5, t5⟩ := RdSs.of p5
      have hR : reachBytes = 140737488351232 := rfl
      refine ⟨rfl, .mk k0 s1 k2 x3 xs4 xs5, ?_, ?_⟩
      · unfold RdS
        exact ⟨_, _, _, _, _, rfl, r3, r4.rd, q4, r5.rd, q5⟩
      · unfold PS.sz szB
        exact ⟨by omega, z3, t4, t5⟩

theorem in_po : ∀ (n : Nat) (cs : List Value) (y : DataW H × List MemPlace), DataW.trod enc Tryz.prog w base spare held n 34 cs = some y → (∀ q ∈ y.1.weights Tryz.prog 34, q ≤ reachBytes) → cs.length = 3 ∧ ∃ e : PO, RdO w [] e cs ∧ PO.sz e := by
  intro n
  intro cs y h hw
  obtain ⟨xs, n', hn', hy, hlen, hxl, hf⟩ := DataW.trod_struct Tryz.underlying34 h
  have c0 : Tryz.prog.cellsOf 9 = 1 := by kernel_rfl
  have c1 : Tryz.prog.cellsOf 31 = 1 := by kernel_rfl
  have c2 : Tryz.prog.cellsOf 32 = 1 := by kernel_rfl
  have cT : Tryz.prog.cellsOf 34 = 3 := by kernel_rfl
  rw [cT] at hlen
  have f0 : DataW.trod enc Tryz.prog w base spare held n' 9 ((cs.drop 0).take (Tryz.prog.cellsOf 9)) = xs[0]? := hf 0 _ rfl
  have f1 : DataW.trod enc Tryz.prog w base spare held n' 31 ((cs.drop 1).take (Tryz.prog.cellsOf 31)) = xs[1]? := hf 1 _ rfl
  have f2 : DataW.trod enc Tryz.prog w base spare held n' 32 ((cs.drop 2).take (Tryz.prog.cellsOf 32)) = xs[2]? := hf 2 _ rfl
  rw [c0] at f0
  rw [c1] at f1
  rw [c2] at f2
  match cs, hlen with
  | [a0, a1, a2], _ =>
    match xs, hxl with
    | [y0, y1, y2], _ =>
      have hwt : y.1.weights Tryz.prog 34 = y0.1.weights Tryz.prog 9 ++ (y1.1.weights Tryz.prog 31 ++ (y2.1.weights Tryz.prog 32 ++ [])) := by
        rw [hy]
        simp only [DataW.weights, Tryz.underlying34]
        rfl
      rw [hwt] at hw
      obtain ⟨s0, e0, z0⟩ := in_strW Tryz.underlying9 (show DataW.trod _ _ _ _ _ _ n' _ [a0] = some y0 from f0) (fun q hq => hw q (by simp [hq]))
      obtain ⟨v1, l1, e1, r1, p1, w1⟩ := in_sliceF (m := 1) encY szB Tryz.underlying31 c0 (by decide) (show DataW.trod _ _ _ _ _ _ n' _ [a1] = some y1 from f1) (fun q hq => hw q (by simp [hq])) (fun m hm cs y hy hq => by
        obtain ⟨s, h1, h2⟩ := in_strW Tryz.underlying9 hy hq
        have hR : reachBytes = 140737488351232 := rfl
        exact ⟨s, by unfold szB; omega, h1⟩)
      obtain ⟨v2, l2, e2, r2, p2, _⟩ := in_sliceF (m := 11) (fun c : List Value => c) (fun c => c.length = 11 ∧ ∃ e : PS, RdS w [] e c ∧ e.sz) Tryz.underlying32 (by kernel_rfl) (by decide) (show DataW.trod _ _ _ _ _ _ n' _ [a2] = some y2 from f2) (fun q hq => hw q (by simp [hq])) (fun m hm cs y hy hq => ⟨cs, in_ps m cs y hy hq, rfl⟩)
      simp only [List.cons.injEq, and_true] at e0 e1 e2
      subst e0; subst e1; subst e2
      obtain ⟨xs2, q2, t2⟩ := RdSs.of p2
      have hR : reachBytes = 140737488351232 := rfl
      have bs1 : Tryz.prog.bytesOf 9 = 16 := by kernel_rfl
      rw [bs1] at w1
      refine ⟨rfl, ⟨s0, l1, xs2⟩, ⟨_, _, rfl, r1.rd, l2, r2.rd, q2⟩, ?_⟩
      unfold PO.sz szB
      exact ⟨by dsimp only; omega, p1, by dsimp only; omega, t2⟩

theorem in_decl : ∀ (n : Nat) (cs : List Value) (y : DataW H × List MemPlace), DataW.trod enc Tryz.prog w base spare held n 77 cs = some y → (∀ q ∈ y.1.weights Tryz.prog 77, q ≤ reachBytes) → ∃ d : ByteArray × ByteArray, (szB d.1 ∧ szB d.2) ∧ cs = encD d := by
  intro n
  intro cs y h hw
  obtain ⟨xs, n', hn', hy, hlen, hxl, hf⟩ := DataW.trod_struct Tryz.underlying77 h
  have c0 : Tryz.prog.cellsOf 9 = 1 := by kernel_rfl
  have cT : Tryz.prog.cellsOf 77 = 2 := by kernel_rfl
  rw [cT] at hlen
  have f0 : DataW.trod enc Tryz.prog w base spare held n' 9 ((cs.drop 0).take (Tryz.prog.cellsOf 9)) = xs[0]? := hf 0 _ rfl
  have f1 : DataW.trod enc Tryz.prog w base spare held n' 9 ((cs.drop 1).take (Tryz.prog.cellsOf 9)) = xs[1]? := hf 1 _ rfl
  rw [c0] at f0 f1
  match cs, hlen with
  | [a0, a1], _ =>
    match xs, hxl with
    | [y0, y1], _ =>
      have hwt : y.1.weights Tryz.prog 77 = y0.1.weights Tryz.prog 9 ++ (y1.1.weights Tryz.prog 9 ++ []) := by
        rw [hy]
        simp only [DataW.weights, Tryz.underlying77]
        rfl
      rw [hwt] at hw
      obtain ⟨s0, e0, z0⟩ := in_strW Tryz.underlying9 (show DataW.trod _ _ _ _ _ _ n' _ [a0] = some y0 from f0) (fun q hq => hw q (by simp [hq]))
      obtain ⟨s1, e1, z1⟩ := in_strW Tryz.underlying9 (show DataW.trod _ _ _ _ _ _ n' _ [a1] = some y1 from f1) (fun q hq => hw q (by simp [hq]))
      simp only [List.cons.injEq, and_true] at e0 e1
      subst e0; subst e1
      have hR : reachBytes = 140737488351232 := rfl
      refine ⟨(s0, s1), ⟨?_, ?_⟩, rfl⟩ <;> (unfold szB; dsimp only; omega)

theorem in_pp : ∀ (n : Nat) (cs : List Value) (y : DataW H × List MemPlace), DataW.trod enc Tryz.prog w base spare held n 25 cs = some y → (∀ q ∈ y.1.weights Tryz.prog 25, q ≤ reachBytes) → ∃ (a b : Value) (p : PP'), cs = [a, b] ∧ RdP w [] (.agg #[a, b]) p ∧ p.sz := by
  intro n
  intro cs y h hw
  obtain ⟨xs, n', hn', hy, hlen, hxl, hf⟩ := DataW.trod_struct Tryz.underlying25 h
  have c0 : Tryz.prog.cellsOf 22 = 1 := by kernel_rfl
  have c1 : Tryz.prog.cellsOf 23 = 1 := by kernel_rfl
  have cT : Tryz.prog.cellsOf 25 = 2 := by kernel_rfl
  rw [cT] at hlen
  have f0 : DataW.trod enc Tryz.prog w base spare held n' 22 ((cs.drop 0).take (Tryz.prog.cellsOf 22)) = xs[0]? := hf 0 _ rfl
  have f1 : DataW.trod enc Tryz.prog w base spare held n' 23 ((cs.drop 1).take (Tryz.prog.cellsOf 23)) = xs[1]? := hf 1 _ rfl
  rw [c0] at f0
  rw [c1] at f1
  match cs, hlen with
  | [a0, a1], _ =>
    match xs, hxl with
    | [y0, y1], _ =>
      have hwt : y.1.weights Tryz.prog 25 = y0.1.weights Tryz.prog 22 ++ (y1.1.weights Tryz.prog 23 ++ []) := by
        rw [hy]
        simp only [DataW.weights, Tryz.underlying25]
        rfl
      rw [hwt] at hw
      obtain ⟨v0, l0, e0, r0, p0, w0⟩ := in_sliceF (m := 2) encD (fun d => szB d.1 ∧ szB d.2) Tryz.underlying22 (by kernel_rfl) (by decide) (show DataW.trod _ _ _ _ _ _ n' _ [a0] = some y0 from f0) (fun q hq => hw q (by simp [hq])) (fun m hm cs y hy hq => in_decl m cs y hy hq)
      obtain ⟨v1, l1, e1, r1, p1, w1⟩ := in_sliceF (m := 3) (fun c : List Value => c) (fun c => c.length = 3 ∧ ∃ e : PO, RdO w [] e c ∧ PO.sz e) Tryz.underlying23 (by kernel_rfl) (by decide) (show DataW.trod _ _ _ _ _ _ n' _ [a1] = some y1 from f1) (fun q hq => hw q (by simp [hq])) (fun m hm cs y hy hq => ⟨cs, in_po m cs y hy hq, rfl⟩)
      simp only [List.cons.injEq, and_true] at e0 e1
      subst e0; subst e1
      obtain ⟨xs1, q1, t1⟩ := RdOs.of p1
      have hR : reachBytes = 140737488351232 := rfl
      have b0 : Tryz.prog.bytesOf 77 = 32 := by kernel_rfl
      have b1 : Tryz.prog.bytesOf 34 = 64 := by kernel_rfl
      rw [b0] at w0
      rw [b1] at w1
      have hl := q1.len
      refine ⟨_, _, ⟨l0, xs1⟩, rfl, ⟨_, _, rfl, r0.rd, l1, r1.rd, q1⟩, ?_⟩
      exact ⟨p0, by dsimp only; omega, by dsimp only; omega, t1⟩

end
end Go.Proofs.YtijbnjaackhlcaaGreatDoor

namespace Go.Vc
open Sim
theorem allOne_app : ∀ {a b : List Value}, allOne a = true → allOne b = true → allOne (a ++ b) = true
  | [], b, _, h => h
  | x :: a, b, h, h2 => by
    rw [allOne, Bool.and_eq_true] at h
    rw [List.cons_append, allOne, Bool.and_eq_true]
    exact ⟨h.1, allOne_app h.2 h2⟩
theorem RdOs.flat {w0 : World} {sh : Shared} : ∀ {l : List PO} {cl : List (List Value)}, RdOs w0 sh l cl → allOne (cl.flatMap fun x => x) = true ∧ ∀ c ∈ cl, c.length = 3
  | [], _, h => by rw [show _ = [] from h]; exact ⟨rfl, by simp⟩
  | o :: l, _, h => by
    obtain ⟨c, cl', rfl, ⟨vp, vb, rfl, h1, h2⟩, h3⟩ := h
    obtain ⟨i1, i2⟩ := RdOs.flat h3
    obtain ⟨x1, y1, rfl⟩ := h1.val
    obtain ⟨x2, y2, rfl, _⟩ := h2.len
    refine ⟨?_, fun c hc => ?_⟩
    · rw [List.flatMap_cons]
      exact allOne_app rfl i1
    · rcases List.mem_cons.1 hc with rfl | hc
      · rfl
      · exact i2 c hc
theorem RdSs.flat {w0 : World} {sh : Shared} : ∀ {l : List PS} {cl : List (List Value)}, RdSs w0 sh l cl → allOne (cl.flatMap fun x => x) = true ∧ ∀ c ∈ cl, c.length = 11
  | [], _, h => by unfold RdSs at h; rw [h]; exact ⟨rfl, by simp⟩
  | .mk _ _ _ (.mk _ _ _ _ _ _) _ _ :: l, _, h => by
    unfold RdSs at h
    obtain ⟨c, cl', rfl, h2, h3⟩ := h
    obtain ⟨i1, i2⟩ := RdSs.flat h3
    unfold RdS at h2
    obtain ⟨ce, vb, ve, c1, c2, rfl, he, hb, _, hx, _⟩ := h2
    unfold RdE at he
    obtain ⟨va, vo, c3, c4, rfl, ha, _, ho, _⟩ := he
    obtain ⟨x1, y1, rfl, _⟩ := hb
    obtain ⟨x2, y2, rfl, _⟩ := hx
    obtain ⟨x3, y3, rfl, _⟩ := ha
    obtain ⟨x4, y4, rfl, _⟩ := ho
    refine ⟨?_, fun c hc => ?_⟩
    · rw [List.flatMap_cons]
      exact allOne_app rfl i1
    · rcases List.mem_cons.1 hc with rfl | hc
      · rfl
      · exact i2 c hc
theorem RdSs.app {w0 : World} {sh : Shared} : ∀ {l l' : List PS} {cl cl' : List (List Value)}, RdSs w0 sh l cl → RdSs w0 sh l' cl' → RdSs w0 sh (l ++ l') (cl ++ cl')
  | [], _, _, _, h, h2 => by unfold RdSs at h; rw [h]; exact h2
  | e :: l, _, _, _, h, h2 => by
    unfold RdSs at h
    obtain ⟨c, cl', rfl, h3, h4⟩ := h
    rw [List.cons_append]
    unfold RdSs
    exact ⟨c, _, rfl, h3, RdSs.app h4 h2⟩
end Go.Vc
namespace Go.Proofs.YtijbnjaackhlcaaGreatDoor
open Go.Vc Sim
theorem small_of {p : PP'} (h : PO.costL p.opers + p.stores.length ≤ 400) : PP'.small p ∧ ∀ o ∈ p.opers, PS.sizeL o.body ≤ 400 := by
  have h1 := PO.costL_len p.opers
  refine ⟨⟨by omega, by omega, fun o ho => ?_⟩, fun o ho => ?_⟩
  all_goals
    have h2 := PO.costL_mem ho
    unfold PO.cost at h2
    omega
end Go.Proofs.YtijbnjaackhlcaaGreatDoor

namespace Go.Proofs.YtijbnjaackhlcaaGreatDoor
open Go.Vc Sim
def XSpec (w0 : World) (n : Nat) : Prop := ∀ (sh : Shared) (e : PE) (va vo : Value), e.size ≤ n → RdEl w0 sh va e.args → RdEl w0 sh vo e.or →
  Vc.Fn PP w0 sh 18 [.agg (List.toArray (peC e.kind e.num e.name e.meth va vo))] [] (fun r Γ => ∃ a c a' c', r = .agg (List.toArray (peC e.kind e.num e.name e.meth (.slice a e.args.length c) (.slice a' e.or.length c'))) ∧
    Γ = [Rds fun bl => RdEl w0 bl (.slice a e.args.length c) e.args ∧ RdEl w0 bl (.slice a' e.or.length c') e.or])
set_option maxHeartbeats 4000000 in
theorem conv_of (w0 : World) (n : Nat) (hE : XSpec w0 n) (sh : Shared) (v : Value) (l : List PE) (hl : RdEl w0 sh v l) (hn : ∀ x ∈ l, x.size ≤ n) (hlen : l.length ≤ 100000) :
    Vc.Fn PP w0 sh 32 [v] [] (fun r Γ => ∃ a c, r = .slice a l.length c ∧ Γ = [Rds fun bl => RdEl w0 bl (.slice a l.length c) l]) := by
  obtain ⟨a0, c0, rfl, hc0⟩ := hl.len
  refine fn_of_run en32 fn32 rfl rfl rfl ?_
  repeat' (first | refine zck ?_ | refine zcp (by kernel_rfl) ?_ | refine zcl ?_ | (refine zap rfl ?_; first | refine zan rfl ?_) | refine zch ?_)
  refine run_nilslice 62 6 ?_
  refine run_emptyR (fun bl => RdEs w0 bl [] []) (by unfold RdEs; rfl) ?_
  refine run_loop (S := Nat × Option Addr × Nat × List (List Value)) (fun s => [(0, .slice a0 l.length c0), (3, .slice s.2.1 s.1 s.2.2.1), (4, .int .i64 (s.1 : Int))])
    (fun s Γ => Γ = [Rds (fun bl => RdEs w0 bl (l.take s.1) s.2.2.2), SlA 62 6 s.2.1 s.1 s.2.2.1 (s.2.2.2.flatMap fun x => x)] ∧ s.1 ≤ l.length ∧ s.2.2.2.length = s.1 ∧ (∀ c ∈ s.2.2.2, c.length = 6)) (fun s => l.length - s.1) (0, none, 0, [])
    ⟨rfl, rfl, rfl, trivial⟩ ⟨rfl, Nat.zero_le _, rfl, fun c h => by cases h⟩ ?_
  rintro ⟨j, a, c, cl⟩ Γ junk ⟨rfl, g1, g2, g3⟩
  dsimp only at g1 g2 g3 ⊢
  by_cases hj : j < l.length
  · obtain ⟨x, hx⟩ : ∃ x, l[j]? = some x := ⟨_, List.getElem?_eq_getElem hj⟩
    obtain ⟨b, off, cc, T, fr, cs, rfl, e2, e3, e4, _⟩ := hl.at hx
    obtain ⟨va, vo, rfl, r1, r2⟩ := e4.cs
    have hcall := hE sh x _ _ (hn x (List.mem_iff_getElem?.2 ⟨_, hx⟩)) r1 r2
    obtain ⟨a3, c3, hv3, _⟩ := id r1.len
    obtain ⟨a4, c4, hv4, _⟩ := id r2.len
    subst hv3
    subst hv4
    repeat (first | refine zck ?_ | refine zcl ?_ | refine zcm ?_ | refine zcn ?_)
    first | refine zcp (by kernel_rfl) ?_ | refine zcq PP_mixed (by kernel_rfl) (by kernel_rfl) ?_
    repeat' (refine zap rfl ?_; first | refine zan rfl ?_ | refine zce rfl ?_ | refine zbg rfl rfl (by omega) ?_)
    all_goals refine zch ?_
    all_goals repeat (first | refine zck ?_ | refine zcl ?_ | refine zcm ?_ | refine zcn ?_)
    refine zci rfl ?_
    repeat (first | refine zck ?_ | refine zcl ?_ | refine zcm ?_ | refine zcn ?_)
    first | refine zcp (by kernel_rfl) ?_ | refine zcq PP_mixed (by kernel_rfl) (by kernel_rfl) ?_
    repeat' (refine zap rfl ?_; first | refine zad rfl (fun hF Γ w h1 h2 => e2 hF Γ w (fun p hp => h1 p (by simp [hp])) h2) (e3 _ (by omega)) ?_ | refine reg_buildSlice rfl rfl rfl rfl rfl rfl (fun nb => ?_) | refine zan rfl ?_ | refine zan rfl ?_ | (refine zai [] hcall rfl rfl rfl (fun p hp => by simp [hp]) ?_; rintro v Γ ⟨x1, y1, x2, y2, rfl, rfl⟩) | refine reg_append 2 3 rfl rfl rfl rfl rfl rfl rfl rfl (by omega) (fun _ _ => rfl) (fun a5 c5 => ?_) | refine zce rfl ?_ | refine zas rfl rfl (by omega) ?_)
    all_goals refine zch ?_
    all_goals repeat (first | refine zck ?_ | refine zcl ?_ | refine zcm ?_ | refine zcn ?_)
    refine run_joinR [1, 0] (χ := fun bl => RdEs w0 bl (l.take (j + 1)) (cl ++ [peC x.kind x.num x.name x.meth (.slice x1 x.args.length y1) (.slice x2 x.or.length y2)])) rfl (fun q1 q2 h1 h2 => by
      rw [take_snoc hx]
      exact (h1.mono fun p hp => List.mem_append_left _ hp).snoc (RdE.of (h2.1.mono fun p hp => List.mem_append_right _ hp) (h2.2.mono fun p hp => List.mem_append_right _ hp))) ?_
    refine run_take [0, 0] rfl ?_
    repeat' (first | refine zcp (by kernel_rfl) ?_ | (refine zap rfl ?_; first | refine zan rfl ?_ | refine zan rfl ?_ | refine zau rfl rfl (by omega) ?_) | refine zch ?_)
    refine cut_end ⟨rfl, (j + 1, a5, c5, cl ++ [peC x.kind x.num x.name x.meth (.slice x1 x.args.length y1) (.slice x2 x.or.length y2)]), ⟨rfl, rfl, int_eq (by dsimp only; omega), trivial⟩, ⟨?_, by dsimp only; omega, by dsimp only; rw [List.length_append, g2]; rfl, fun c hc => ?_⟩, by dsimp only; omega⟩
    · dsimp only
      rw [List.flatMap_append]
      rfl
    · rcases List.mem_append.1 hc with hc | hc
      · exact g3 c hc
      · rw [List.mem_singleton.1 hc]; rfl
  · repeat (first | refine zck ?_ | refine zcl ?_ | refine zcm ?_ | refine zcn ?_)
    first | refine zcp (by kernel_rfl) ?_ | refine zcq PP_mixed (by kernel_rfl) (by kernel_rfl) ?_
    repeat' (refine zap rfl ?_; first | refine zan rfl ?_ | refine zce rfl ?_ | refine zbh rfl rfl (by omega) ?_)
    all_goals refine zch ?_
    all_goals repeat (first | refine zck ?_ | refine zcl ?_ | refine zcm ?_ | refine zcn ?_)
    refine zcj rfl ?_
    refine cut_exit rfl rfl ?_
    have hjl : j = l.length := by omega
    subst hjl
    refine run_slR (fun x : List Value => x) 1 (l := cl) rfl rfl g3 g2 rfl ?_
    refine run_joinR [0, 0] (χ := fun bl => RdEl w0 bl (.slice a l.length c) l) rfl (fun q1 q2 h1 h2 => ⟨cl, h2.mono fun p hp => List.mem_append_right _ hp, by
      rw [List.take_of_length_le (Nat.le_refl _)] at h1
      exact h1.mono fun p hp => List.mem_append_left _ hp⟩) ?_
    repeat' (first | refine zck ?_ | refine zcp (by kernel_rfl) ?_ | (refine zap rfl ?_; first | refine zan rfl ?_ | refine zan rfl ?_) | refine zch ?_)
    exact ret_tmp1 rfl ⟨_, _, rfl, rfl⟩
set_option maxHeartbeats 4000000 in
theorem convE_step (w0 : World) (n : Nat) (hn : n ≤ 100000) (hE : XSpec w0 n) : XSpec w0 (n + 1) := by
  intro sh e va vo hs ha ho
  have h1 := e.size_eq
  have l1 := PE.sizeL_len e.args
  have l2 := PE.sizeL_len e.or
  have k1 := conv_of w0 n hE sh _ e.args ha (fun x h => by have := PE.size_args h; omega) (by omega)
  have k2 := conv_of w0 n hE sh _ e.or ho (fun x h => by have := PE.size_or h; omega) (by omega)
  obtain ⟨a1, c1, hva, _⟩ := id ha.len
  obtain ⟨a2, c2, hvo, _⟩ := id ho.len
  subst hva; subst hvo
  refine fn_of_run en18 fn18 rfl rfl rfl ?_
  repeat (first | refine zck ?_ | refine zcl ?_ | refine zcm ?_ | refine zcn ?_)
  first | refine zcp (by kernel_rfl) ?_ | refine zcq PP_mixed (by kernel_rfl) (by kernel_rfl) ?_
  repeat' (refine zap rfl ?_; first | refine zaq (cs := [_, _, _, _, _, _]) rfl (fun nb => ?_) | refine zar (fun nb => ?_))
  all_goals refine zch ?_
  all_goals repeat (first | refine zck ?_ | refine zcl ?_ | refine zcm ?_ | refine zcn ?_)
  refine run_share [0] rfl ?_
  repeat (first | refine zck ?_ | refine zcl ?_ | refine zcm ?_ | refine zcn ?_)
  first | refine zcp (by kernel_rfl) ?_ | refine zcq PP_mixed (by kernel_rfl) (by kernel_rfl) ?_
  repeat' (refine zap rfl ?_; first | refine zaa 0 rfl rfl rfl ?_ | (refine zai [] k1 rfl rfl rfl (fun p hp => by simp [hp]) ?_; rintro v Γ ⟨x1, y1, rfl, rfl⟩) | (refine zai [] k2 rfl rfl rfl (fun p hp => by simp [hp]) ?_; rintro v Γ ⟨x2, y2, rfl, rfl⟩) | refine zao rfl ?_ | refine zae 2 rfl rfl rfl rfl rfl rfl rfl ?_ | refine zcb rfl ?_)
  all_goals refine zch ?_
  all_goals repeat (first | refine zck ?_ | refine zcl ?_ | refine zcm ?_ | refine zcn ?_)
  refine run_joinR [1, 0] (χ := fun bl => RdEl w0 bl (.slice x1 e.args.length y1) e.args ∧ RdEl w0 bl (.slice x2 e.or.length y2) e.or) rfl
    (fun b1 b2 h1 h2 => ⟨h1.mono fun p hp => List.mem_append_left _ hp, h2.mono fun p hp => List.mem_append_right _ hp⟩) ?_
  exact run_ret (leaves_nil (ends_take [0] rfl (ends_one rfl (resOk_pt 1 rfl rfl rfl) ⟨rfl, x1, y1, x2, y2, rfl, rfl⟩)))
theorem convE_spec (w0 : World) : ∀ n, n ≤ 100000 → XSpec w0 n
  | 0, _ => fun sh e va vo h => by have := e.size_pos; omega
  | n + 1, hn => convE_step w0 n (by omega) (convE_spec w0 n (by omega))
end Go.Proofs.YtijbnjaackhlcaaGreatDoor

namespace Go.Vc
open Sim
theorem RdSs.snoc {w0 : World} {sh : Shared} : ∀ {l : List PS} {cl : List (List Value)} {e : PS} {c : List Value}, RdSs w0 sh l cl → RdS w0 sh e c → RdSs w0 sh (l ++ [e]) (cl ++ [c])
  | [], _, e, c, h, he => by unfold RdSs at h; subst h; unfold RdSs; exact ⟨c, [], rfl, he, by unfold RdSs; rfl⟩
  | _ :: l, _, e, c, h, he => by
    unfold RdSs at h
    obtain ⟨c1, cl', h1, h2, h3⟩ := h
    subst h1
    rw [List.cons_append, List.cons_append]
    unfold RdSs
    exact ⟨c1, _, rfl, h2, RdSs.snoc h3 he⟩
end Go.Vc
namespace Go.Proofs.YtijbnjaackhlcaaGreatDoor
open Go.Vc Sim
set_option maxHeartbeats 8000000 in
theorem convS_spec (w0 : World) : ∀ (n : Nat), n ≤ 100000 → ∀ (sh : Shared) (v : Value) (l : List PS), PS.sizeL l ≤ n → RdSt w0 sh v l →
    Vc.Fn PP w0 sh 35 [v] [] (fun r Γ => ∃ a c, r = .slice a l.length c ∧ Γ = [Rds fun bl => RdSt w0 bl (.slice a l.length c) l]) := by
  intro n
  induction n using Nat.strongRecOn with
  | _ n ih =>
  intro hn sh v l hs hl
  have hlen := PS.sizeL_len l
  obtain ⟨a0, c0, rfl, hc0⟩ := hl.len
  refine fn_of_run en35 fn35 rfl rfl rfl ?_
  repeat' (first | refine zck ?_ | refine zcp (by kernel_rfl) ?_ | refine zcl ?_ | (refine zap rfl ?_; first | refine zan rfl ?_) | refine zch ?_)
  refine run_nilslice 131 11 ?_
  refine run_emptyR (fun bl => RdSs w0 bl [] []) (by unfold RdSs; rfl) ?_
  refine run_loop (S := Nat × Option Addr × Nat × List (List Value)) (fun s => [(0, .slice a0 l.length c0), (3, .slice s.2.1 s.1 s.2.2.1), (4, .int .i64 (s.1 : Int))])
    (fun s Γ => Γ = [Rds (fun bl => RdSs w0 bl (l.take s.1) s.2.2.2), SlA 131 11 s.2.1 s.1 s.2.2.1 (s.2.2.2.flatMap fun x => x)] ∧ s.1 ≤ l.length ∧ s.2.2.2.length = s.1 ∧ (∀ c ∈ s.2.2.2, c.length = 11)) (fun s => l.length - s.1) (0, none, 0, [])
    ⟨rfl, rfl, rfl, trivial⟩ ⟨rfl, Nat.zero_le _, rfl, fun c h => by cases h⟩ ?_
  rintro ⟨j, a, c, cl⟩ Γ junk ⟨rfl, g1, g2, g3⟩
  dsimp only at g1 g2 g3 ⊢
  by_cases hj : j < l.length
  · obtain ⟨x, hx⟩ : ∃ x, l[j]? = some x := ⟨_, List.getElem?_eq_getElem hj⟩
    obtain ⟨b, off, cc, T, fr, cs, rfl, e2, e3, e4, _⟩ := hl.at hx
    obtain ⟨va, vo, vb, ve, rfl, r1, r2, r3, r4⟩ := e4.sp
    have hxn := PS.sizeL_mem (List.mem_iff_getElem?.2 ⟨_, hx⟩)
    have z1 := PS.size_expr x
    have z2 := PS.size_body x
    have z3 := PS.size_els x
    have k1 := convE_spec w0 n hn sh x.expr _ _ (by omega) r1 r2
    have k2 := ih (PS.sizeL x.body) (by omega) (by omega) sh _ x.body (Nat.le_refl _) r3
    have k3 := ih (PS.sizeL x.els) (by omega) (by omega) sh _ x.els (Nat.le_refl _) r4
    obtain ⟨p1, q1, hv1, _⟩ := id r1.len
    obtain ⟨p2, q2, hv2, _⟩ := id r2.len
    obtain ⟨p3, q3, hv3, _⟩ := id r3.len
    obtain ⟨p4, q4, hv4, _⟩ := id r4.len
    subst hv1; subst hv2; subst hv3; subst hv4
    clear ih
    repeat (first | refine zck ?_ | refine zcl ?_ | refine zcm ?_ | refine zcn ?_)
    first | refine zcp (by kernel_rfl) ?_ | refine zcq PP_mixed (by kernel_rfl) (by kernel_rfl) ?_
    repeat' (refine zap rfl ?_; first | refine zan rfl ?_ | refine zce rfl ?_ | refine zbg rfl rfl (by omega) ?_)
    all_goals refine zch ?_
    all_goals repeat (first | refine zck ?_ | refine zcl ?_ | refine zcm ?_ | refine zcn ?_)
    refine zci rfl ?_
    repeat (first | refine zck ?_ | refine zcl ?_ | refine zcm ?_ | refine zcn ?_)
    first | refine zcp (by kernel_rfl) ?_ | refine zcq PP_mixed (by kernel_rfl) (by kernel_rfl) ?_
    repeat' (refine zap rfl ?_; first | refine zad rfl (fun hF Γ w h1 h2 => e2 hF Γ w (fun p hp => h1 p (by simp [hp])) h2) (e3 _ (by omega)) ?_ | refine zar (fun t5 => ?_) | refine zae 2 rfl rfl rfl rfl rfl rfl rfl ?_ | refine zan rfl ?_ | refine zas rfl rfl (by omega) ?_)
    all_goals refine zch ?_
    all_goals repeat (first | refine zck ?_ | refine zcl ?_ | refine zcm ?_ | refine zcn ?_)
    refine run_share [2] rfl ?_
    repeat (first | refine zck ?_ | refine zcl ?_ | refine zcm ?_ | refine zcn ?_)
    first | refine zcp (by kernel_rfl) ?_ | refine zcq PP_mixed (by kernel_rfl) (by kernel_rfl) ?_
    repeat' (refine zap rfl ?_; first | refine reg_buildSlice rfl rfl rfl rfl rfl rfl (fun nb => ?_) | refine zan rfl ?_ | refine zan rfl ?_ | refine zaa 0 rfl rfl rfl ?_ | (refine zai [] k1 rfl rfl rfl (fun p hp => by simp [hp]) ?_; rintro v Γ ⟨x1, y1, x2, y2, rfl, rfl⟩) | (refine zai [] k2 rfl rfl rfl (fun p hp => by simp [hp]) ?_; rintro v Γ ⟨x3, y3, rfl, rfl⟩) | (refine zai [] k3 rfl rfl rfl (fun p hp => by simp [hp]) ?_; rintro v Γ ⟨x4, y4, rfl, rfl⟩) | refine reg_append 4 5 rfl rfl rfl rfl rfl rfl rfl rfl (by omega) (fun _ _ => rfl) (fun a5 c5 => ?_) | refine zce rfl ?_ | refine zao rfl ?_ | refine zcb rfl ?_)
    all_goals refine zch ?_
    all_goals repeat (first | refine zck ?_ | refine zcl ?_ | refine zcm ?_ | refine zcn ?_)
    refine run_joinR [2, 1] (χ := fun bl => (RdEl w0 bl (.slice x1 x.expr.args.length y1) x.expr.args ∧ RdEl w0 bl (.slice x2 x.expr.or.length y2) x.expr.or) ∧ RdSt w0 bl (.slice x3 x.body.length y3) x.body) rfl (fun b1 b2 h1 h2 => ⟨⟨h1.1.mono fun p hp => List.mem_append_left _ hp, h1.2.mono fun p hp => List.mem_append_left _ hp⟩, h2.mono fun p hp => List.mem_append_right _ hp⟩) ?_
    refine run_joinR [0, 0] (χ := fun bl => ((RdEl w0 bl (.slice x1 x.expr.args.length y1) x.expr.args ∧ RdEl w0 bl (.slice x2 x.expr.or.length y2) x.expr.or) ∧ RdSt w0 bl (.slice x3 x.body.length y3) x.body) ∧ RdSt w0 bl (.slice x4 x.els.length y4) x.els) rfl (fun b1 b2 h1 h2 => ⟨⟨⟨h1.1.1.mono fun p hp => List.mem_append_left _ hp, h1.1.2.mono fun p hp => List.mem_append_left _ hp⟩, h1.2.mono fun p hp => List.mem_append_left _ hp⟩, h2.mono fun p hp => List.mem_append_right _ hp⟩) ?_
    refine run_joinR [1, 0] (χ := fun bl => RdSs w0 bl (l.take (j + 1)) (cl ++ [psC x (.slice x1 x.expr.args.length y1) (.slice x2 x.expr.or.length y2) (.slice x3 x.body.length y3) (.slice x4 x.els.length y4)])) rfl (fun b1 b2 h1 h2 => by
      rw [take_snoc hx]
      exact (h1.mono fun p hp => List.mem_append_left _ hp).snoc (RdS.of (h2.1.1.1.mono fun p hp => List.mem_append_right _ hp) (h2.1.1.2.mono fun p hp => List.mem_append_right _ hp) (h2.1.2.mono fun p hp => List.mem_append_right _ hp) (h2.2.mono fun p hp => List.mem_append_right _ hp))) ?_
    refine run_take [0, 0] rfl ?_
    repeat' (first | refine zcp (by kernel_rfl) ?_ | (refine zap rfl ?_; first | refine zan rfl ?_ | refine zan rfl ?_ | refine zau rfl rfl (by omega) ?_) | refine zch ?_)
    refine cut_end ⟨rfl, (j + 1, a5, c5, cl ++ [psC x (.slice x1 x.expr.args.length y1) (.slice x2 x.expr.or.length y2) (.slice x3 x.body.length y3) (.slice x4 x.els.length y4)]), ⟨rfl, rfl, int_eq (by dsimp only; omega), trivial⟩, ⟨?_, by dsimp only; omega, by dsimp only; rw [List.length_append, g2]; rfl, fun c hc => ?_⟩, by dsimp only; omega⟩
    · dsimp only
      rw [List.flatMap_append]
      rfl
    · rcases List.mem_append.1 hc with hc | hc
      · exact g3 c hc
      · rw [List.mem_singleton.1 hc]; rfl
  · repeat (first | refine zck ?_ | refine zcl ?_ | refine zcm ?_ | refine zcn ?_)
    first | refine zcp (by kernel_rfl) ?_ | refine zcq PP_mixed (by kernel_rfl) (by kernel_rfl) ?_
    repeat' (refine zap rfl ?_; first | refine zan rfl ?_ | refine zce rfl ?_ | refine zbh rfl rfl (by omega) ?_)
    all_goals refine zch ?_
    all_goals repeat (first | refine zck ?_ | refine zcl ?_ | refine zcm ?_ | refine zcn ?_)
    refine zcj rfl ?_
    refine cut_exit rfl rfl ?_
    have hjl : j = l.length := by omega
    subst hjl
    refine run_slR (fun x : List Value => x) 1 (l := cl) rfl rfl g3 g2 rfl ?_
    refine run_joinR [0, 0] (χ := fun bl => RdSt w0 bl (.slice a l.length c) l) rfl (fun q1 q2 h1 h2 => ⟨cl, h2.mono fun p hp => List.mem_append_right _ hp, by
      rw [List.take_of_length_le (Nat.le_refl _)] at h1
      exact h1.mono fun p hp => List.mem_append_left _ hp⟩) ?_
    repeat' (first | refine zck ?_ | refine zcp (by kernel_rfl) ?_ | (refine zap rfl ?_; first | refine zan rfl ?_ | refine zan rfl ?_) | refine zch ?_)
    exact ret_tmp1 rfl ⟨_, _, rfl, rfl⟩
end Go.Proofs.YtijbnjaackhlcaaGreatDoor

namespace Sim
end Sim

namespace Sim
end Sim
namespace Go.Proofs.YtijbnjaackhlcaaGreatDoor
open Go.Vc Sim
end Go.Proofs.YtijbnjaackhlcaaGreatDoor

namespace Sim
end Sim
namespace Go.Vc
open Sim
theorem RdEfV.parts {w0 : World} {sh : Shared} {p : P6} {e : Ef} (h : RdEfV w0 sh (efV p e) e) : RdSl w0 sh encY 1 (.slice p.1.1 e.reads.length p.1.2) e.reads ∧ RdSl w0 sh encY 1 (.slice p.2.1.1 e.writes.length p.2.1.2) e.writes ∧ RdSl w0 sh encY 1 (.slice p.2.2.1 e.hosts.length p.2.2.2) e.hosts := by
  obtain ⟨_, e1, v1, v2, v3, rfl, h1, h2, h3⟩ := h
  simp at e1
  obtain ⟨rfl, rfl, rfl⟩ := e1
  exact ⟨h1, h2, h3⟩
end Go.Vc
namespace Go.Proofs.YtijbnjaackhlcaaGreatDoor
open Go.Vc Sim
end Go.Proofs.YtijbnjaackhlcaaGreatDoor

namespace Go.Proofs.YtijbnjaackhlcaaGreatDoor
open Go.Vc Sim
end Go.Proofs.YtijbnjaackhlcaaGreatDoor

namespace Sim
end Sim
namespace Go.Vc
open Sim
theorem RdEs.app {w0 : World} {sh : Shared} : ∀ {l l' : List PE} {cl cl' : List (List Value)}, RdEs w0 sh l cl → RdEs w0 sh l' cl' → RdEs w0 sh (l ++ l') (cl ++ cl')
  | [], _, _, _, h, h2 => by unfold RdEs at h; rw [h]; exact h2
  | e :: l, _, _, _, h, h2 => by
    unfold RdEs at h
    obtain ⟨c, cl', rfl, h3, h4⟩ := h
    rw [List.cons_append]
    unfold RdEs
    exact ⟨c, _, rfl, h3, RdEs.app h4 h2⟩
theorem RdEs.flat {w0 : World} {sh : Shared} : ∀ {l : List PE} {cl : List (List Value)}, RdEs w0 sh l cl → allOne (cl.flatMap fun x => x) = true ∧ ∀ c ∈ cl, c.length = 6
  | [], _, h => by unfold RdEs at h; rw [h]; exact ⟨rfl, by simp⟩
  | .mk _ _ _ _ _ _ :: l, _, h => by
    unfold RdEs at h
    obtain ⟨c, cl', rfl, h2, h3⟩ := h
    obtain ⟨i1, i2⟩ := RdEs.flat h3
    unfold RdE at h2
    obtain ⟨va, vo, c3, c4, rfl, ha, _, ho, _⟩ := h2
    obtain ⟨x3, y3, rfl, _⟩ := ha
    obtain ⟨x4, y4, rfl, _⟩ := ho
    refine ⟨?_, fun c hc => ?_⟩
    · rw [List.flatMap_cons]
      exact allOne_app rfl i1
    · rcases List.mem_cons.1 hc with rfl | hc
      · rfl
      · exact i2 c hc
end Go.Vc

namespace Sim
open Go Go.Vc
structure TEnv where
  vars : ByteArray → Int
  stores : ByteArray → Option ByteArray
def anyNe (ts : List Int) (t : Int) : Bool := ts.any fun x => decide (x ≠ t)
def tEach (ts : List Int) (t : Int) : Int × Int := if anyNe ts t = true then (0, 17) else (t, 0)
def signT (s : ByteArray) : Option (Int × Int) :=
  if inS [bs [43], bs [45], bs [42], bs [47], bs [37]] s then some (1, 1)
  else if inS [bs [60], bs [60, 61], bs [62], bs [62, 61]] s then some (1, 2)
  else if inS [bs [61, 61], bs [33, 61]] s then some (0, 2)
  else if inS [bs [97, 110, 100], bs [111, 114]] s then some (2, 2) else none
def formT (e : PE) : Bool :=
  if e.kind = 5 ∧ signT e.meth = none then false else
  if e.kind ≤ 2 then decide (e.args.length = 0) && decide (e.or.length = 0)
  else if e.kind ≤ 4 then decide (e.args.length = 1) && decide (e.or.length = 0)
  else if e.kind = 5 then decide (e.args.length = 2) && decide (e.or.length = 0)
  else if e.kind = 6 then decide (e.args.length ≤ 4) && decide (e.or.length ≤ 1)
  else decide (e.args.length ≤ 4) && decide (e.or.length = 0)
def callT (E : TEnv) (e : PE) (ts : List Int) : Int :=
  match E.stores e.name with
  | none => 16
  | some nm => match ctKind nm with
    | none => 2
    | some k => match ctFind k e.meth with
      | none => 14
      | some m => if m.2.1 ≠ ts.length then 1 else if anyNe ts 1 = true then 17 else 0
def ruleE (E : TEnv) (e : PE) (ts : List Int) : Int × Int :=
  if e.kind = 0 then (1, 0) else if e.kind = 1 then (2, 0) else
  if e.kind = 2 then (if E.vars e.name = 1 ∨ E.vars e.name = 2 then (E.vars e.name, 0) else (0, 16)) else
  if e.kind = 3 then tEach ts 2 else if e.kind = 4 then tEach ts 1 else
  if e.kind = 5 then (match signT e.meth with
    | none => (0, 17)
    | some (a, b) => if (a = 0 ∧ ts.getD 0 0 = ts.getD 1 0) ∨ (a ≠ 0 ∧ anyNe ts a = false) then (b, 0) else (0, 17)) else
  if e.kind = 6 then (if callT E e ts ≠ 0 then (0, callT E e ts) else (1, 0)) else tEach ts 1
mutual
def ofE (E : TEnv) : PE → Int × Int
  | .mk k n a b xs ys =>
    if k < 0 ∨ 7 < k then (0, 2) else if formT (.mk k n a b xs ys) = false then (0, 5) else
    if (ofEs E xs).2 ≠ 0 then (0, (ofEs E xs).2) else
    if (ruleE E (.mk k n a b xs ys) (ofEs E xs).1).2 ≠ 0 ∨ k ≠ 6 then ruleE E (.mk k n a b xs ys) (ofEs E xs).1 else
    if ofOr E ys ≠ 0 then (0, ofOr E ys) else (1, 0)
def ofEs (E : TEnv) : List PE → List Int × Int
  | [] => ([], 0)
  | e :: l => if (ofE E e).2 ≠ 0 then ([], (ofE E e).2) else ((ofE E e).1 :: (ofEs E l).1, (ofEs E l).2)
def ofOr (E : TEnv) : List PE → Int
  | [] => 0
  | e :: l => if (ofE E e).2 ≠ 0 then (ofE E e).2 else if (ofE E e).1 ≠ 1 then 17 else ofOr E l
end
def deepB : Nat → PE → Bool
  | 0, _ => true
  | k + 1, e => e.args.any (deepB k) || e.or.any (deepB k)
def typeOf (E : TEnv) (e : PE) : Int × Int := if deepB 12 e = true then (0, 18) else ofE E e
end Sim

namespace Sim
open Go Go.Vc
abbrev TV := List (ByteArray × Int)
def lastT : TV → ByteArray → Int → Int
  | [], _, t => t
  | v :: l, s, t => lastT l s (if v.1 = s then v.2 else t)
abbrev typT (l : TV) (s : ByteArray) : Int := lastT l s 0
def envT (K : ByteArray → Option ByteArray) (l : TV) : TEnv := ⟨typT l, K⟩
def exT (K : ByteArray → Option ByteArray) (there : TV) (s : PS) : Int × Int := if hasEx s.kind = true then typeOf (envT K there) s.expr else (0, 0)
def oneT (K : ByteArray → Option ByteArray) (all there : TV) (s : PS) : TV × TV × Int :=
  if (exT K there s).2 ≠ 0 then (all, there, (exT K there s).2) else
  if s.kind = 0 then (if typT all s.name ≠ 0 then (all, there, 11) else (all ++ [(s.name, (exT K there s).1)], there ++ [(s.name, (exT K there s).1)], 0)) else
  if s.kind = 1 ∧ typT there s.name = 0 then (all, there, 16) else
  if (s.kind = 1 ∧ typT there s.name ≠ (exT K there s).1) ∨ (s.kind = 3 ∧ (exT K there s).1 ≠ 2) ∨ (s.kind = 5 ∧ (exT K there s).1 ≠ 1) then (all, there, 17) else (all, there, 0)
mutual
def tyS (K : ByteArray → Option ByteArray) : PS → TV → TV → TV × TV × Int
  | .mk k a n e xs ys, all, there =>
    if (oneT K all there (.mk k a n e xs ys)).2.2 ≠ 0 then oneT K all there (.mk k a n e xs ys) else
    if (tySs K xs (oneT K all there (.mk k a n e xs ys)).1 (oneT K all there (.mk k a n e xs ys)).2.1).2 ≠ 0 then ((tySs K xs (oneT K all there (.mk k a n e xs ys)).1 (oneT K all there (.mk k a n e xs ys)).2.1).1, (oneT K all there (.mk k a n e xs ys)).2.1, (tySs K xs (oneT K all there (.mk k a n e xs ys)).1 (oneT K all there (.mk k a n e xs ys)).2.1).2) else
    ((tySs K ys (tySs K xs (oneT K all there (.mk k a n e xs ys)).1 (oneT K all there (.mk k a n e xs ys)).2.1).1 (oneT K all there (.mk k a n e xs ys)).2.1).1, (oneT K all there (.mk k a n e xs ys)).2.1, (tySs K ys (tySs K xs (oneT K all there (.mk k a n e xs ys)).1 (oneT K all there (.mk k a n e xs ys)).2.1).1 (oneT K all there (.mk k a n e xs ys)).2.1).2)
def tySs (K : ByteArray → Option ByteArray) : List PS → TV → TV → TV × Int
  | [], all, _ => (all, 0)
  | s :: l, all, there => if (tyS K s all there).2.2 ≠ 0 then ((tyS K s all there).1, (tyS K s all there).2.2) else tySs K l (tyS K s all there).1 (tyS K s all there).2.1
end
def parV (o : PO) : TV := o.params.map fun n => (n, 1)
def badStore (p : PP') : Option (ByteArray × ByteArray) := p.stores.find? fun d => decide (ctKind d.2 = none)
def tyO (p : PP') (o : PO) : TV × Int := tySs (lookK p.stores) o.body (parV o) (parV o)
def badOper (p : PP') : Option PO := p.opers.find? fun o => decide ((tyO p o).2 ≠ 0)
def tyP (p : PP') : ByteArray × Int :=
  if checkP p ≠ 0 then (bs [], checkP p) else
  match badStore p with
  | some d => (d.1, 2)
  | none => match badOper p with
    | some o => (o.name, (tyO p o).2)
    | none => (bs [], 0)
def tyV (p : PP') (oper : ByteArray) : TV × Int :=
  if (tyP p).2 ≠ 0 then ([], (tyP p).2) else match findP p oper with
  | none => ([], 10)
  | some o => tyO p o
theorem lastT_none {s : ByteArray} : ∀ {l : TV} {t : Int}, s ∉ l.map (·.1) → lastT l s t = t
  | [], _, _ => rfl
  | v :: l, t, h => by
    rw [List.map_cons, List.mem_cons, not_or] at h
    rw [lastT, if_neg (fun e => h.1 e.symm), lastT_none h.2]
def okV (l : TV) : Prop := ∀ v ∈ l, v.2 = 1 ∨ v.2 = 2
theorem lastT_mem {s : ByteArray} : ∀ {l : TV} (t : Int), s ∈ l.map (·.1) → ∃ v ∈ l, v.1 = s ∧ lastT l s t = v.2
  | [], _, h => by simp at h
  | v :: l, t, h => by
    by_cases h2 : s ∈ l.map (·.1)
    · obtain ⟨u, h3, h4, h5⟩ := lastT_mem (l := l) (if v.1 = s then v.2 else t) h2
      exact ⟨u, .tail _ h3, h4, h5⟩
    · rw [lastT, lastT_none h2]
      rw [List.map_cons, List.mem_cons] at h
      rcases h with rfl | h
      · exact ⟨v, .head _, rfl, by rw [if_pos rfl]⟩
      · exact absurd h h2
theorem typT_zero {l : TV} (h : okV l) (s : ByteArray) : typT l s = 0 ↔ s ∉ l.map (·.1) := by
  constructor
  · intro h1 h2
    obtain ⟨v, h3, _, h5⟩ := lastT_mem (l := l) 0 h2
    rw [show typT l s = lastT l s 0 from rfl, h5] at h1
    rcases h v h3 with h6 | h6 <;> omega
  · intro h1; exact lastT_none h1
end Sim

namespace Sim
open Go Go.Vc
def dpL (f : PE → Nat) : List PE → Nat → Nat
  | [], d => d
  | x :: l, d => dpL f l (max d (f x))
def deepN : Nat → PE → Nat
  | 0, _ => 0
  | k + 1, e => 1 + dpL (deepN k) e.or (dpL (deepN k) e.args 0)
theorem dpL_ge {f : PE → Nat} {k : Nat} : ∀ {l : List PE} {d : Nat}, k ≤ dpL f l d ↔ k ≤ d ∨ ∃ x ∈ l, k ≤ f x
  | [], d => by simp [dpL]
  | x :: l, d => by
    rw [dpL, dpL_ge (l := l)]
    constructor
    · rintro (h | ⟨y, h1, h2⟩)
      · by_cases hd : k ≤ d
        · exact .inl hd
        · exact .inr ⟨x, .head _, by omega⟩
      · exact .inr ⟨y, .tail _ h1, h2⟩
    · rintro (h | ⟨y, h1, h2⟩)
      · exact .inl (by omega)
      · rcases List.mem_cons.1 h1 with rfl | h1
        · exact .inl (by omega)
        · exact .inr ⟨y, h1, h2⟩
theorem deepB_iff : ∀ (k : Nat) (e : PE), deepB k e = true ↔ k + 1 ≤ deepN (k + 1) e
  | 0, e => by rw [deepB, deepN]; exact ⟨fun _ => by omega, fun _ => rfl⟩
  | k + 1, e => by
    rw [deepB, deepN, Bool.or_eq_true, List.any_eq_true, List.any_eq_true, show k + 1 + 1 ≤ 1 + dpL (deepN (k + 1)) e.or (dpL (deepN (k + 1)) e.args 0) ↔ k + 1 ≤ dpL (deepN (k + 1)) e.or (dpL (deepN (k + 1)) e.args 0) by omega, dpL_ge, dpL_ge]
    constructor
    · rintro (⟨x, h1, h2⟩ | ⟨x, h1, h2⟩)
      · exact .inl (.inr ⟨x, h1, (deepB_iff k x).1 h2⟩)
      · exact .inr ⟨x, h1, (deepB_iff k x).1 h2⟩
    · rintro ((h | ⟨x, h1, h2⟩) | ⟨x, h1, h2⟩)
      · omega
      · exact .inl ⟨x, h1, (deepB_iff k x).2 h2⟩
      · exact .inr ⟨x, h1, (deepB_iff k x).2 h2⟩
theorem deepN_le : ∀ (k : Nat) (e : PE), deepN k e ≤ k
  | 0, _ => Nat.le_refl _
  | k + 1, e => by
    rw [deepN]
    have h : ∀ m, m ≤ dpL (deepN k) e.or (dpL (deepN k) e.args 0) → m ≤ k := fun m hm => by
      rcases dpL_ge.1 hm with h | ⟨x, _, h⟩
      · rcases dpL_ge.1 h with h | ⟨x, _, h⟩
        · omega
        · exact Nat.le_trans h (deepN_le k x)
      · exact Nat.le_trans h (deepN_le k x)
    have := h _ (Nat.le_refl _)
    omega
theorem deepB_less : ∀ {k : Nat} {e : PE}, deepB (k + 1) e = true → deepB k e = true
  | 0, _, _ => rfl
  | k + 1, e, h => by
    rw [deepB, Bool.or_eq_true, List.any_eq_true, List.any_eq_true] at h
    rw [deepB, Bool.or_eq_true, List.any_eq_true, List.any_eq_true]
    rcases h with ⟨x, h1, h2⟩ | ⟨x, h1, h2⟩
    · exact .inl ⟨x, h1, deepB_less h2⟩
    · exact .inr ⟨x, h1, deepB_less h2⟩
theorem deepB_part {e x : PE} {k : Nat} (h : deepB (k + 1) e = false) (hx : x ∈ e.args ++ e.or) : deepB (k + 1) x = false := by
  cases hq : deepB (k + 1) x with
  | false => rfl
  | true =>
    rw [deepB, Bool.or_eq_false_iff] at h
    have h2 := deepB_less hq
    rcases List.mem_append.1 hx with hx | hx
    · rw [List.any_eq_false] at h; exact absurd h2 (h.1 x hx)
    · have h3 := h.2; rw [List.any_eq_false] at h3; exact absurd h2 (h3 x hx)
theorem ofE_mk (E : TEnv) (k n : Int) (a b : ByteArray) (xs ys : List PE) : ofE E (.mk k n a b xs ys) =
    if k < 0 ∨ 7 < k then (0, 2) else if formT (.mk k n a b xs ys) = false then (0, 5) else
    if (ofEs E xs).2 ≠ 0 then (0, (ofEs E xs).2) else
    if (ruleE E (.mk k n a b xs ys) (ofEs E xs).1).2 ≠ 0 ∨ k ≠ 6 then ruleE E (.mk k n a b xs ys) (ofEs E xs).1 else
    if ofOr E ys ≠ 0 then (0, ofOr E ys) else (1, 0) := by rw [ofE]
theorem ofE_eq (E : TEnv) (e : PE) : ofE E e =
    if e.kind < 0 ∨ 7 < e.kind then (0, 2) else if formT e = false then (0, 5) else
    if (ofEs E e.args).2 ≠ 0 then (0, (ofEs E e.args).2) else
    if (ruleE E e (ofEs E e.args).1).2 ≠ 0 ∨ e.kind ≠ 6 then ruleE E e (ofEs E e.args).1 else
    if ofOr E e.or ≠ 0 then (0, ofOr E e.or) else (1, 0) := by
  obtain ⟨k, n, a, b, xs, ys⟩ := e
  exact ofE_mk E k n a b xs ys
def tyOk (r : Int × Int) : Prop := (r.2 = 0 ∧ (r.1 = 1 ∨ r.1 = 2)) ∨ (r.2 ≠ 0 ∧ r.1 = 0)
theorem tEach_ok (ts : List Int) (t : Int) (h : t = 1 ∨ t = 2) : tyOk (tEach ts t) := by
  unfold tEach
  split
  · exact .inr ⟨by decide, rfl⟩
  · exact .inl ⟨rfl, h⟩
theorem signT_ok {s : ByteArray} {a b : Int} (h : signT s = some (a, b)) : b = 1 ∨ b = 2 := by
  unfold signT at h
  split at h
  · cases h; exact .inl rfl
  · split at h
    · cases h; exact .inr rfl
    · split at h
      · cases h; exact .inr rfl
      · split at h
        · cases h; exact .inr rfl
        · cases h
theorem ruleE_ok (E : TEnv) (e : PE) (ts : List Int) : tyOk (ruleE E e ts) := by
  unfold ruleE
  split
  · exact .inl ⟨rfl, .inl rfl⟩
  split
  · exact .inl ⟨rfl, .inr rfl⟩
  split
  · split
    · rename_i h; exact .inl ⟨rfl, h⟩
    · exact .inr ⟨by show (16 : Int) ≠ 0; decide, rfl⟩
  split
  · exact tEach_ok _ _ (.inr rfl)
  split
  · exact tEach_ok _ _ (.inl rfl)
  split
  · split
    · exact .inr ⟨by show (17 : Int) ≠ 0; decide, rfl⟩
    · rename_i hs
      split
      · exact .inl ⟨rfl, signT_ok hs⟩
      · exact .inr ⟨by show (17 : Int) ≠ 0; decide, rfl⟩
  split
  · split
    · rename_i h; exact .inr ⟨h, rfl⟩
    · exact .inl ⟨rfl, .inl rfl⟩
  · exact tEach_ok _ _ (.inl rfl)
theorem ofE_ok (E : TEnv) (e : PE) : tyOk (ofE E e) := by
  rw [ofE_eq]
  split
  · exact .inr ⟨by show (2 : Int) ≠ 0; decide, rfl⟩
  split
  · exact .inr ⟨by show (5 : Int) ≠ 0; decide, rfl⟩
  split
  · rename_i h; exact .inr ⟨h, rfl⟩
  split
  · exact ruleE_ok _ _ _
  split
  · rename_i h; exact .inr ⟨h, rfl⟩
  · exact .inl ⟨rfl, .inl rfl⟩
theorem typeOf_ok (E : TEnv) (e : PE) : tyOk (typeOf E e) := by
  unfold typeOf
  split
  · exact .inr ⟨by show (18 : Int) ≠ 0; decide, rfl⟩
  · exact ofE_ok E e
theorem ofEs_parts {E : TEnv} : ∀ {l : List PE}, (ofEs E l).2 = 0 → ∀ x ∈ l, (ofE E x).2 = 0
  | [], _, x, hx => by simp at hx
  | e :: l, h, x, hx => by
    rw [ofEs] at h
    by_cases h1 : (ofE E e).2 = 0
    · rw [if_neg (fun q => q h1)] at h
      rcases List.mem_cons.1 hx with rfl | hx
      · exact h1
      · exact ofEs_parts h x hx
    · rw [if_pos h1] at h; exact absurd h h1
theorem ofOr_parts {E : TEnv} : ∀ {l : List PE}, ofOr E l = 0 → ∀ x ∈ l, (ofE E x).2 = 0
  | [], _, x, hx => by simp at hx
  | e :: l, h, x, hx => by
    rw [ofOr] at h
    by_cases h1 : (ofE E e).2 = 0
    · rw [if_neg (fun q => q h1)] at h
      by_cases h2 : (ofE E e).1 = 1
      · rw [if_neg (fun q => q h2)] at h
        rcases List.mem_cons.1 hx with rfl | hx
        · exact h1
        · exact ofOr_parts h x hx
      · rw [if_pos h2] at h; omega
    · rw [if_pos h1] at h; exact absurd h h1
theorem formT_or {e : PE} (h : formT e = true) (hk : e.kind ≠ 6) : e.or = [] := by
  unfold formT at h
  split at h
  · cases h
  split at h
  · simp only [Bool.and_eq_true, decide_eq_true_eq] at h; exact List.length_eq_zero_iff.1 h.2
  split at h
  · simp only [Bool.and_eq_true, decide_eq_true_eq] at h; exact List.length_eq_zero_iff.1 h.2
  split at h
  · simp only [Bool.and_eq_true, decide_eq_true_eq] at h; exact List.length_eq_zero_iff.1 h.2
  try rw [if_neg hk] at h
  simp only [Bool.and_eq_true, decide_eq_true_eq] at h
  exact List.length_eq_zero_iff.1 h.2
theorem ofE_good {E : TEnv} {e : PE} (h : (ofE E e).2 = 0) : ¬ (e.kind < 0 ∨ 7 < e.kind) ∧ formT e = true ∧ (ofEs E e.args).2 = 0 ∧ (ruleE E e (ofEs E e.args).1).2 = 0 ∧ (e.kind = 6 → ofOr E e.or = 0) := by
  rw [ofE_eq] at h
  by_cases h1 : e.kind < 0 ∨ 7 < e.kind
  · rw [if_pos h1] at h; exact absurd (show (2 : Int) = 0 from h) (by decide)
  rw [if_neg h1] at h
  by_cases h2 : formT e = false
  · rw [if_pos h2] at h; exact absurd (show (5 : Int) = 0 from h) (by decide)
  rw [if_neg h2] at h
  by_cases h3 : (ofEs E e.args).2 = 0
  rotate_left
  · rw [if_pos h3] at h; exact absurd h h3
  rw [if_neg (fun q => q h3)] at h
  by_cases h4 : (ruleE E e (ofEs E e.args).1).2 = 0
  rotate_left
  · rw [if_pos (.inl h4)] at h; exact absurd h h4
  refine ⟨h1, by simpa using h2, h3, h4, fun h6 => ?_⟩
  rw [if_neg (by rintro (q | q); exact q h4; exact q h6)] at h
  by_cases h5 : ofOr E e.or = 0
  · exact h5
  · rw [if_pos h5] at h; exact absurd h h5
theorem ofE_parts {E : TEnv} {e x : PE} (h : (ofE E e).2 = 0) (hx : x ∈ e.args ++ e.or) : (ofE E x).2 = 0 := by
  obtain ⟨_, h2, h3, _, h5⟩ := ofE_good h
  rcases List.mem_append.1 hx with hx | hx
  · exact ofEs_parts h3 x hx
  · by_cases h6 : e.kind = 6
    · exact ofOr_parts (h5 h6) x hx
    · rw [formT_or h2 h6] at hx; simp at hx
theorem typeOf_parts {E : TEnv} {e x : PE} (h : (typeOf E e).2 = 0) (hx : x ∈ e.args ++ e.or) : (typeOf E x).2 = 0 := by
  unfold typeOf at h ⊢
  by_cases hd : deepB 12 e = true
  · rw [if_pos hd] at h; exact absurd (show (18 : Int) = 0 from h) (by decide)
  rw [if_neg hd] at h
  rw [if_neg (by rw [deepB_part (by simpa using hd) hx]; decide)]
  exact ofE_parts h hx
def TEnv.le (E F : TEnv) : Prop := (∀ s, E.vars s = 1 ∨ E.vars s = 2 → F.vars s = E.vars s) ∧ ∀ s k, E.stores s = some k → F.stores s = some k
theorem callT_mono {E F : TEnv} (h : E.le F) {e : PE} {ts : List Int} (hc : callT E e ts = 0) : callT F e ts = 0 := by
  unfold callT at hc ⊢
  cases hs : E.stores e.name with
  | none => rw [hs] at hc; exact absurd (show (16 : Int) = 0 from hc) (by decide)
  | some k =>
    rw [hs] at hc
    rw [h.2 _ _ hs]
    exact hc
theorem ruleE_mono {E F : TEnv} (h : E.le F) {e : PE} {ts : List Int} (hc : (ruleE E e ts).2 = 0) : ruleE F e ts = ruleE E e ts := by
  unfold ruleE at hc ⊢
  split
  · rfl
  rename_i k0
  rw [if_neg k0] at hc
  split
  · rfl
  rename_i k1
  rw [if_neg k1] at hc
  split
  · rename_i k2
    rw [if_pos k2] at hc
    by_cases hv : E.vars e.name = 1 ∨ E.vars e.name = 2
    · rw [if_pos hv, if_pos (by rw [h.1 _ hv]; exact hv), h.1 _ hv]
    · rw [if_neg hv] at hc; exact absurd (show (16 : Int) = 0 from hc) (by decide)
  rename_i k2
  rw [if_neg k2] at hc
  split
  · rfl
  rename_i k3
  rw [if_neg k3] at hc
  split
  · rfl
  rename_i k4
  rw [if_neg k4] at hc
  split
  · rfl
  rename_i k5
  rw [if_neg k5] at hc
  split
  · rename_i k6
    rw [if_pos k6] at hc
    by_cases hv : callT E e ts = 0
    · rw [if_neg (fun q => q (callT_mono h hv)), if_neg (fun q => q hv)]
    · rw [if_pos hv] at hc; exact absurd hc hv
  · rfl
mutual
theorem ofE_mono {E F : TEnv} (h : E.le F) : ∀ (e : PE), (ofE E e).2 = 0 → ofE F e = ofE E e
  | .mk k n a b xs ys, hc => by
    obtain ⟨h1, h2, h3, h4, h5⟩ := ofE_good hc
    have h1 : ¬ (k < 0 ∨ 7 < k) := h1
    have h3 : (ofEs E xs).2 = 0 := h3
    have h4 : (ruleE E (.mk k n a b xs ys) (ofEs E xs).1).2 = 0 := h4
    have i1 := ofEs_mono h xs h3
    by_cases h6 : k = 6
    · have h5 := h5 h6
      have h5 : ofOr E ys = 0 := h5
      have g1 : ofE E (.mk k n a b xs ys) = (1, 0) := by
        rw [ofE_mk, if_neg h1, if_neg (by rw [h2]; decide), if_neg (fun q => q h3), if_neg (by rintro (q | q); exact q h4; exact q h6), if_neg (fun q => q h5)]
      have g2 : ofE F (.mk k n a b xs ys) = (1, 0) := by
        rw [ofE_mk, i1, ruleE_mono h h4, if_neg h1, if_neg (by rw [h2]; decide), if_neg (fun q => q h3), if_neg (by rintro (q | q); exact q h4; exact q h6), if_neg (fun q => q (ofOr_mono h ys h5))]
      rw [g1, g2]
    · have g1 : ofE E (.mk k n a b xs ys) = ruleE E (.mk k n a b xs ys) (ofEs E xs).1 := by
        rw [ofE_mk, if_neg h1, if_neg (by rw [h2]; decide), if_neg (fun q => q h3), if_pos (.inr h6)]
      have g2 : ofE F (.mk k n a b xs ys) = ruleE E (.mk k n a b xs ys) (ofEs E xs).1 := by
        rw [ofE_mk, i1, ruleE_mono h h4, if_neg h1, if_neg (by rw [h2]; decide), if_neg (fun q => q h3), if_pos (.inr h6)]
      rw [g1, g2]
theorem ofEs_mono {E F : TEnv} (h : E.le F) : ∀ (l : List PE), (ofEs E l).2 = 0 → ofEs F l = ofEs E l
  | [], _ => by rw [ofEs, ofEs]
  | e :: l, hc => by
    rw [ofEs] at hc
    by_cases h1 : (ofE E e).2 = 0
    · rw [if_neg (fun q => q h1)] at hc
      rw [ofEs, ofEs, ofE_mono h e h1, ofEs_mono h l hc]
    · rw [if_pos h1] at hc; exact absurd hc h1
theorem ofOr_mono {E F : TEnv} (h : E.le F) : ∀ (l : List PE), ofOr E l = 0 → ofOr F l = 0
  | [], _ => by rw [ofOr]
  | e :: l, hc => by
    rw [ofOr] at hc
    by_cases h1 : (ofE E e).2 = 0
    · rw [if_neg (fun q => q h1)] at hc
      by_cases h2 : (ofE E e).1 = 1
      · rw [if_neg (fun q => q h2)] at hc
        rw [ofOr, ofE_mono h e h1, if_neg (fun q => q h1), if_neg (fun q => q h2)]
        exact ofOr_mono h l hc
      · rw [if_pos h2] at hc; omega
    · rw [if_pos h1] at hc; exact absurd hc h1
end
theorem typeOf_mono {E F : TEnv} (h : E.le F) {e : PE} (hc : (typeOf E e).2 = 0) : typeOf F e = typeOf E e := by
  unfold typeOf at hc ⊢
  split
  · rfl
  · rename_i hd
    rw [if_neg hd] at hc
    exact ofE_mono h e hc
end Sim

namespace Sim
open Go Go.Vc
def lookV : TV → ByteArray → Option Int
  | [], _ => none
  | v :: l, s => if v.1 = s then some v.2 else lookV l s
def tvS (l : TV) : SM := l.map fun v => (v.1, .int .i64 v.2)
theorem lookV_S (s : ByteArray) : ∀ l : TV, lookS (tvS l) s = (lookV l s).map (.int .i64)
  | [] => rfl
  | v :: l => by
    show lookS ((v.1, .int .i64 v.2) :: tvS l) s = _
    rw [lookS, lookV]
    by_cases h : v.1 = s
    · rw [if_pos h, if_pos h]; rfl
    · rw [if_neg h, if_neg h]; exact lookV_S s l
theorem lookV_get (s : ByteArray) (l : TV) : (lookS (tvS l) s).getD (.int .i64 0) = .int .i64 ((lookV l s).getD 0) := by
  rw [lookV_S]; cases lookV l s <;> rfl
def envM (vs : TV) (ks : List (ByteArray × ByteArray)) : TEnv := ⟨fun s => (lookV vs s).getD 0, lookK ks⟩
def sgM : SM := [(bs [43], .agg #[.int .i64 1, .int .i64 1]), (bs [45], .agg #[.int .i64 1, .int .i64 1]), (bs [42], .agg #[.int .i64 1, .int .i64 1]), (bs [47], .agg #[.int .i64 1, .int .i64 1]), (bs [37], .agg #[.int .i64 1, .int .i64 1]),
  (bs [60], .agg #[.int .i64 1, .int .i64 2]), (bs [60, 61], .agg #[.int .i64 1, .int .i64 2]), (bs [62], .agg #[.int .i64 1, .int .i64 2]), (bs [62, 61], .agg #[.int .i64 1, .int .i64 2]),
  (bs [61, 61], .agg #[.int .i64 0, .int .i64 2]), (bs [33, 61], .agg #[.int .i64 0, .int .i64 2]), (bs [97, 110, 100], .agg #[.int .i64 2, .int .i64 2]), (bs [111, 114], .agg #[.int .i64 2, .int .i64 2])]
abbrev sgV (p : Int × Int) : Value := .agg #[.int .i64 p.1, .int .i64 p.2]
theorem sgM_look (s : ByteArray) : lookS sgM s = (signT s).map sgV := by
  unfold sgM signT inS
  simp only [lookS, List.any_cons, List.any_nil, Bool.or_false, Bool.or_eq_true, decide_eq_true_eq]
  by_cases h1 : bs [43] = s
  · subst h1; rfl
  by_cases h2 : bs [45] = s
  · subst h2; rfl
  by_cases h3 : bs [42] = s
  · subst h3; rfl
  by_cases h4 : bs [47] = s
  · subst h4; rfl
  by_cases h5 : bs [37] = s
  · subst h5; rfl
  by_cases h6 : bs [60] = s
  · subst h6; rfl
  by_cases h7 : bs [60, 61] = s
  · subst h7; rfl
  by_cases h8 : bs [62] = s
  · subst h8; rfl
  by_cases h9 : bs [62, 61] = s
  · subst h9; rfl
  by_cases h10 : bs [61, 61] = s
  · subst h10; rfl
  by_cases h11 : bs [33, 61] = s
  · subst h11; rfl
  by_cases h12 : bs [97, 110, 100] = s
  · subst h12; rfl
  by_cases h13 : bs [111, 114] = s
  · subst h13; rfl
  simp only [h1, h2, h3, h4, h5, h6, h7, h8, h9, h10, h11, h12, h13, if_false, or_self, Option.map_none]
theorem ofEs_drop {E : TEnv} {l : List PE} {j : Nat} {x : PE} (h : l[j]? = some x) : ofEs E (l.drop j) = if (ofE E x).2 ≠ 0 then ([], (ofE E x).2) else ((ofE E x).1 :: (ofEs E (l.drop (j + 1))).1, (ofEs E (l.drop (j + 1))).2) := by
  have hj := (List.getElem?_eq_some_iff.1 h).1
  rw [List.drop_eq_getElem_cons hj, (List.getElem?_eq_some_iff.1 h).2, ofEs]
theorem ofOr_drop {E : TEnv} {l : List PE} {j : Nat} {x : PE} (h : l[j]? = some x) : ofOr E (l.drop j) = if (ofE E x).2 ≠ 0 then (ofE E x).2 else if (ofE E x).1 ≠ 1 then 17 else ofOr E (l.drop (j + 1)) := by
  have hj := (List.getElem?_eq_some_iff.1 h).1
  rw [List.drop_eq_getElem_cons hj, (List.getElem?_eq_some_iff.1 h).2, ofOr]
def shV : List Value := [0, 0, 0, 0, 0, 0, 0, 0, 0, 1, 1, 0, 1, 1, 0, 2, 2, 0, 0, 4, 1, 0, 4, 0].map (Value.int .i64)
end Sim
namespace Go.Proofs.YtijbnjaackhlcaaGreatDoor
open Go.Vc Sim
theorem idxIn_spec (w0 : World) (sh : Shared) (v : Value) (l : List Int) (p : Int → Bool) (f : FuncId) (caps : Array Value) (hl : RdSl w0 sh encI 1 v l) (hb : l.length ≤ 1099511627776)
    (hf : ∀ x, FnE PP w0 sh f (.int .i64 x :: caps.toList) [] (.bool (p x)) []) :
    FnE PP w0 sh 317 [v, .func (.func f) #[] caps] [] (.int .i64 (idxP p l 0)) [] := by
  obtain ⟨a, cap, hv, _⟩ := id hl
  subst hv
  refine fn_of_run en317 fn317 rfl rfl rfl ?_
  repeat' (first | refine zck ?_ | refine zcp (by kernel_rfl) ?_ | refine zcl ?_ | (refine zap rfl ?_; first | refine zan rfl ?_ | refine zan rfl ?_ | refine zce rfl ?_) | refine zch ?_)
  refine run_loop (S := Nat) (fun j => [(0, .slice a l.length cap), (1, .func (.func f) #[] caps), (7, .int .i64 l.length), (8, .int .i64 j)])
    (fun j Γ => Γ = [] ∧ j ≤ l.length ∧ idxP p (l.drop j) j = idxP p l 0) (fun j => l.length - j) 0 ⟨rfl, rfl, rfl, rfl, trivial⟩ ⟨rfl, by omega, rfl⟩ ?_
  rintro j Γ junk ⟨rfl, g1, g2⟩
  by_cases hj : j < l.length
  · obtain ⟨x, hx⟩ : ∃ x, l[j]? = some x := ⟨_, List.getElem?_eq_getElem hj⟩
    obtain ⟨b, off, c, T, fr, rfl, e2, _, e3⟩ := hl.cells hx
    have hd : l.drop j = x :: l.drop (j + 1) := by
      rw [List.drop_eq_getElem_cons hj]
      congr 1
      exact (List.getElem?_eq_some_iff.1 hx).2
    have hc := hf x
    rw [hd, idxP] at g2
    by_cases hs : p x = true
    · rw [if_pos hs] at g2
      rw [hs] at hc
      repeat' (first | refine zck ?_ | refine zcp (by kernel_rfl) ?_ | refine zcm ?_ | refine zcl ?_ | (refine zap rfl ?_; first | refine zad rfl e2 (e3 0 _ rfl _ (by omega)) ?_ | refine zan rfl ?_ | refine zan rfl ?_ | refine zah [] hc rfl rfl rfl (fun _ h => h) rfl ?_ | refine zbg rfl rfl (by omega) ?_ | refine zas rfl rfl (by omega) ?_) | refine zch ?_ | refine zci rfl ?_)
      exact qret1 (fun _ _ h => h) rfl ⟨by rw [← g2]; rfl, rfl⟩
    · rw [if_neg hs] at g2
      rw [Bool.eq_false_iff.2 hs] at hc
      repeat' (first | refine zck ?_ | refine zcp (by kernel_rfl) ?_ | refine zcm ?_ | refine zcl ?_ | refine zcn ?_ | (refine zap rfl ?_; first | refine zad rfl e2 (e3 0 _ rfl _ (by omega)) ?_ | refine zan rfl ?_ | refine zan rfl ?_ | refine zah [] hc rfl rfl rfl (fun _ h => h) rfl ?_ | refine zbg rfl rfl (by omega) ?_ | refine zau rfl rfl (by omega) ?_ | refine zas rfl rfl (by omega) ?_) | refine zch ?_ | refine zci rfl ?_ | refine zcj rfl ?_)
      exact cut_end ⟨rfl, j + 1, ⟨rfl, rfl, rfl, int_eq (by omega), trivial⟩, ⟨rfl, by omega, by rw [← g2]; rfl⟩, by omega⟩
  · repeat' (first | refine zck ?_ | refine zcp (by kernel_rfl) ?_ | (refine zap rfl ?_; first | refine zbh rfl rfl (by omega) ?_) | refine zch ?_ | refine zcj rfl ?_)
    refine cut_exit rfl rfl ?_
    repeat' (first | refine zck ?_ | refine zcp (by kernel_rfl) ?_ | (refine zap rfl ?_; first | refine zan rfl ?_) | refine zch ?_)
    rw [List.drop_of_length_le (by omega)] at g2
    exact ret_tmp1 rfl ⟨by rw [← g2]; rfl, rfl⟩
theorem conIn_spec (w0 : World) (sh : Shared) (v : Value) (l : List Int) (p : Int → Bool) (f : FuncId) (caps : Array Value) (hl : RdSl w0 sh encI 1 v l) (hb : l.length ≤ 1099511627776)
    (hf : ∀ x, FnE PP w0 sh f (.int .i64 x :: caps.toList) [] (.bool (p x)) []) :
    FnE PP w0 sh 226 [v, .func (.func f) #[] caps] [] (.bool (l.any p)) [] := by
  refine fn_of_run en226 fn226 rfl rfl rfl ?_
  repeat' (first | refine zck ?_ | refine zcp (by kernel_rfl) ?_ | (refine zap rfl ?_; first | refine zan rfl ?_ | refine zan rfl ?_ | refine zah [] (idxIn_spec w0 sh v l p f caps hl hb hf) rfl rfl rfl (fun _ h => h) rfl ?_ | refine zbt rfl rfl ?_) | refine zch ?_)
  exact ret_tmp1 rfl ⟨bool_eq (idxP_any p l 0 (Int.le_refl _)), rfl⟩
theorem other1_spec (w0 : World) (sh : Shared) (xc : Nat) (t x : Int) : FnE PP w0 ((xc, .cells (List.toArray [.int .i64 t]) 3 (0, 0)) :: sh) 227 [.int .i64 x, .pointer (some ⟨xc, 0, none⟩)] [] (.bool (decide (x ≠ t))) [] := by
  refine fn_of_run en227 fn227 rfl rfl rfl ?_
  repeat' (first | refine zck ?_ | refine zcp (by kernel_rfl) ?_ | (refine zap rfl ?_; first | refine zan rfl ?_ | refine zan rfl ?_ | refine zaa 0 rfl rfl rfl ?_ | refine zbp rfl rfl ?_) | refine zch ?_)
  exact ret_tmp1 rfl ⟨rfl, rfl⟩
theorem other_spec (w0 : World) (sh : Shared) (v : Value) (ts : List Int) (t : Int) (hl : RdSl w0 sh encI 1 v ts) (hb : ts.length ≤ 1099511627776) :
    FnE PP w0 sh 90 [v, .int .i64 t] [] (.bool (anyNe ts t)) [] := by
  refine fn_of_run en90 fn90 rfl rfl rfl ?_
  repeat (first | refine zck ?_ | refine zcl ?_ | refine zcm ?_ | refine zcn ?_)
  first | refine zcp (by kernel_rfl) ?_ | refine zcq PP_mixed (by kernel_rfl) (by kernel_rfl) ?_
  repeat' (refine zap rfl ?_; first | refine zaq (cs := [_]) rfl (fun xc => ?_) | refine zan rfl ?_)
  all_goals refine zch ?_
  all_goals repeat (first | refine zck ?_ | refine zcl ?_ | refine zcm ?_ | refine zcn ?_)
  refine run_share [0] rfl ?_
  repeat' (first | refine zcp (by kernel_rfl) ?_ | (refine zap rfl ?_; first | refine zan rfl ?_ | refine zan rfl ?_ | refine zah [] (conIn_spec w0 _ v ts (fun x => decide (x ≠ t)) 227 #[.pointer (some ⟨xc, 0, none⟩)] (hl.mono fun p hp => List.mem_cons_of_mem _ hp) hb (fun x => other1_spec w0 sh xc t x)) rfl rfl rfl (fun _ h => h) rfl ?_ | refine zan rfl ?_) | refine zch ?_)
  exact ret_tmp1 rfl ⟨rfl, rfl⟩
theorem wrong_spec (w0 : World) (b : Bool) : FnE PP w0 [] 79 [.bool b] [] (.int .i64 (if b = true then 17 else 0)) [] := by
  cases b
  · refine fn_of_run en79 fn79 rfl rfl rfl ?_
    repeat' (first | refine zck ?_ | refine zcp (by kernel_rfl) ?_ | refine zcm ?_ | (refine zap rfl ?_; first | refine zan rfl ?_ | refine zan rfl ?_) | refine zch ?_ | refine zcj rfl ?_)
    exact ret_tmp1 rfl ⟨rfl, rfl⟩
  · refine fn_of_run en79 fn79 rfl rfl rfl ?_
    repeat' (first | refine zck ?_ | refine zcp (by kernel_rfl) ?_ | (refine zap rfl ?_; first | refine zan rfl ?_ | refine zan rfl ?_) | refine zch ?_ | refine zci rfl ?_)
    exact ret_tmp1 rfl ⟨rfl, rfl⟩
abbrev resT (r : Int × Int) : Value := .tuple #[.int .i64 r.1, .int .i64 r.2]
abbrev bxI (xc : Nat) (k : Int) : Nat × Obj := (xc, .cells (List.toArray [.int .i64 k]) 3 (0, 0))
abbrev tyrV (mv ms : Nat) : Value := .agg #[.map (some mv), .map (some ms)]
theorem always1_spec (w0 : World) (sh : Shared) (xc mv ms : Nat) (k : Int) (e : PE) (va vo v : Value) : FnE PP w0 (bxI xc k :: sh) 88 [tyrV mv ms, .agg (List.toArray (peC e.kind e.num e.name e.meth va vo)), v, .pointer (some ⟨xc, 0, none⟩)] [] (.tuple #[.int .i64 k, .int .i64 0]) [] := by
  refine fn_of_run en88 fn88 rfl rfl rfl ?_
  repeat' (first | refine zck ?_ | refine zcp (by kernel_rfl) ?_ | (refine zap rfl ?_; first | refine zan rfl ?_ | refine zaa 0 rfl rfl rfl ?_ | refine zaq (cs := [_, _]) rfl (fun nb => ?_) | refine zaq (cs := [_, _, _, _, _, _]) rfl (fun nb => ?_)) | refine zch ?_)
  refine run_take [] rfl ?_
  exact ret_tmp2 rfl ⟨rfl, rfl⟩
theorem always_spec (w0 : World) (k : Int) : Vc.Fn PP w0 [] 72 [.int .i64 k] [] (fun v Γ => ∃ xc, v = .func (.func 88) #[] #[.pointer (some ⟨xc, 0, none⟩)] ∧ Γ = [pt (bxI xc k).1 (bxI xc k).2]) := by
  refine fn_of_run en72 fn72 rfl rfl rfl ?_
  repeat' (first | refine zck ?_ | refine zcp (by kernel_rfl) ?_ | (refine zap rfl ?_; first | refine zan rfl ?_ | refine zaq (cs := [_]) rfl (fun nb => ?_) | refine zan rfl ?_) | refine zch ?_)
  exact ret_tmp1 rfl ⟨_, rfl, rfl⟩
theorem each_spec (w0 : World) (k : Int) : Vc.Fn PP w0 [] 74 [.int .i64 k] [] (fun v Γ => ∃ xc, v = .func (.func 89) #[] #[.pointer (some ⟨xc, 0, none⟩)] ∧ Γ = [pt (bxI xc k).1 (bxI xc k).2]) := by
  refine fn_of_run en74 fn74 rfl rfl rfl ?_
  repeat' (first | refine zck ?_ | refine zcp (by kernel_rfl) ?_ | (refine zap rfl ?_; first | refine zan rfl ?_ | refine zaq (cs := [_]) rfl (fun nb => ?_) | refine zan rfl ?_) | refine zch ?_)
  exact ret_tmp1 rfl ⟨_, rfl, rfl⟩
theorem each1_spec (w0 : World) (sh : Shared) (xc mv ms : Nat) (k : Int) (e : PE) (va vo v : Value) (ts : List Int) (hl : RdSl w0 sh encI 1 v ts) (hb : ts.length ≤ 1099511627776) : FnE PP w0 (bxI xc k :: sh) 89 [tyrV mv ms, .agg (List.toArray (peC e.kind e.num e.name e.meth va vo)), v, .pointer (some ⟨xc, 0, none⟩)] [] (.tuple #[.int .i64 (tEach ts k).1, .int .i64 (tEach ts k).2]) [] := by
  have ho := other_spec w0 sh v ts k hl hb
  unfold tEach
  cases hq : anyNe ts k with
  | true =>
    rw [hq] at ho
    rw [if_pos rfl]
    refine fn_of_run en89 fn89 rfl rfl rfl ?_
    repeat' (first | refine zck ?_ | refine zcp (by kernel_rfl) ?_ | (refine zap rfl ?_; first | refine zan rfl ?_ | refine zan rfl ?_ | refine zaa 0 rfl rfl rfl ?_ | refine zah [] ho rfl rfl rfl (fun p hp => List.mem_cons_of_mem _ hp) rfl ?_ | refine zaq (cs := [_, _]) rfl (fun nb => ?_) | refine zaq (cs := [_, _, _, _, _, _]) rfl (fun nb => ?_)) | refine zch ?_ | refine zci rfl ?_)
    refine run_take [] rfl ?_
    exact ret_tmp2 rfl ⟨rfl, rfl⟩
  | false =>
    rw [hq] at ho
    rw [if_neg (by decide)]
    refine fn_of_run en89 fn89 rfl rfl rfl ?_
    repeat' (first | refine zck ?_ | refine zcp (by kernel_rfl) ?_ | refine zcm ?_ | (refine zap rfl ?_; first | refine zan rfl ?_ | refine zan rfl ?_ | refine zaa 0 rfl rfl rfl ?_ | refine zah [] ho rfl rfl rfl (fun p hp => List.mem_cons_of_mem _ hp) rfl ?_ | refine zaq (cs := [_, _]) rfl (fun nb => ?_) | refine zaq (cs := [_, _, _, _, _, _]) rfl (fun nb => ?_)) | refine zch ?_ | refine zcj rfl ?_)
    refine run_take [] rfl ?_
    exact ret_tmp2 rfl ⟨rfl, rfl⟩
theorem var_spec (w0 : World) (sh : Shared) (mv ms : Nat) (vs : TV) (e : PE) (va vo v : Value) (hR : RdM w0 sh mv (tvS vs)) : FnE PP w0 sh 73 [tyrV mv ms, .agg (List.toArray (peC e.kind e.num e.name e.meth va vo)), v] []
    (if (lookV vs e.name).getD 0 = 1 ∨ (lookV vs e.name).getD 0 = 2 then .tuple #[.int .i64 ((lookV vs e.name).getD 0), .int .i64 0] else .tuple #[.int .i64 0, .int .i64 16]) [] := by
  have hv := lookV_get e.name vs
  obtain ⟨T, hT⟩ : ∃ T, (lookV vs e.name).getD 0 = T := ⟨_, rfl⟩
  rw [hT] at hv ⊢
  have hR' : ∀ sh', (∀ p ∈ sh, p ∈ sh') → RdM w0 sh' mv (tvS vs) := fun sh' h => hR.mono h
  by_cases h1 : T = 1
  · rw [if_pos (.inl h1)]
    refine fn_of_run en73 fn73 rfl rfl rfl ?_
    repeat (first | refine zck ?_ | refine zcl ?_ | refine zcm ?_ | refine zcn ?_)
    first | refine zcp (by kernel_rfl) ?_ | refine zcq PP_mixed (by kernel_rfl) (by kernel_rfl) ?_
    repeat' (refine zap rfl ?_; first | refine zan rfl ?_ | refine zaq (cs := [_, _]) rfl (fun nb => ?_) | refine zaq (cs := [_, _, _, _, _, _]) rfl (fun nb => ?_))
    all_goals refine zch ?_
    all_goals repeat (first | refine zck ?_ | refine zcl ?_ | refine zcm ?_ | refine zcn ?_)
    refine run_share [0] rfl ?_
    refine run_share [0] rfl ?_
    repeat (first | refine zck ?_ | refine zcl ?_ | refine zcm ?_ | refine zcn ?_)
    first | refine zcp (by kernel_rfl) ?_ | refine zcq PP_mixed (by kernel_rfl) (by kernel_rfl) ?_
    repeat' (refine zap rfl ?_; first | refine reg_lookupR (hR' _ (fun p hp => by simp [hp])) rfl rfl hv ?_ | refine zan rfl ?_ | refine zaa 0 rfl rfl rfl ?_ | refine zaa 1 rfl rfl rfl ?_ | refine zao rfl ?_)
    all_goals refine zch ?_
    all_goals repeat (first | refine zck ?_ | refine zcl ?_ | refine zcm ?_ | refine zcn ?_)
    repeat' (first | refine zck ?_ | refine zcp (by kernel_rfl) ?_ | (refine zap rfl ?_; first | refine zak rfl ?_ | refine zan rfl ?_ | refine zan rfl ?_ | refine zbc rfl rfl (by omega) ?_ | refine zbu rfl ?_) | refine zch ?_ | refine zci rfl ?_)
    exact ret_tmp2 rfl ⟨rfl, rfl⟩
  by_cases h2 : T = 2
  · rw [if_pos (.inr h2)]
    refine fn_of_run en73 fn73 rfl rfl rfl ?_
    repeat (first | refine zck ?_ | refine zcl ?_ | refine zcm ?_ | refine zcn ?_)
    first | refine zcp (by kernel_rfl) ?_ | refine zcq PP_mixed (by kernel_rfl) (by kernel_rfl) ?_
    repeat' (refine zap rfl ?_; first | refine zan rfl ?_ | refine zaq (cs := [_, _]) rfl (fun nb => ?_) | refine zaq (cs := [_, _, _, _, _, _]) rfl (fun nb => ?_))
    all_goals refine zch ?_
    all_goals repeat (first | refine zck ?_ | refine zcl ?_ | refine zcm ?_ | refine zcn ?_)
    refine run_share [0] rfl ?_
    refine run_share [0] rfl ?_
    repeat (first | refine zck ?_ | refine zcl ?_ | refine zcm ?_ | refine zcn ?_)
    first | refine zcp (by kernel_rfl) ?_ | refine zcq PP_mixed (by kernel_rfl) (by kernel_rfl) ?_
    repeat' (refine zap rfl ?_; first | refine reg_lookupR (hR' _ (fun p hp => by simp [hp])) rfl rfl hv ?_ | refine zan rfl ?_ | refine zaa 0 rfl rfl rfl ?_ | refine zaa 1 rfl rfl rfl ?_ | refine zao rfl ?_)
    all_goals refine zch ?_
    all_goals repeat (first | refine zck ?_ | refine zcl ?_ | refine zcm ?_ | refine zcn ?_)
    repeat' (first | refine zck ?_ | refine zcp (by kernel_rfl) ?_ | (refine zap rfl ?_; first | refine zaj rfl ?_ | refine zan rfl ?_ | refine zan rfl ?_ | refine zbc rfl rfl (by omega) ?_ | refine zbd rfl rfl (by omega) ?_ | refine zbv rfl ?_) | refine zch ?_ | refine zci rfl ?_)
    exact ret_tmp2 rfl ⟨rfl, rfl⟩
  · rw [if_neg (by omega)]
    refine fn_of_run en73 fn73 rfl rfl rfl ?_
    repeat (first | refine zck ?_ | refine zcl ?_ | refine zcm ?_ | refine zcn ?_)
    first | refine zcp (by kernel_rfl) ?_ | refine zcq PP_mixed (by kernel_rfl) (by kernel_rfl) ?_
    repeat' (refine zap rfl ?_; first | refine zan rfl ?_ | refine zaq (cs := [_, _]) rfl (fun nb => ?_) | refine zaq (cs := [_, _, _, _, _, _]) rfl (fun nb => ?_))
    all_goals refine zch ?_
    all_goals repeat (first | refine zck ?_ | refine zcl ?_ | refine zcm ?_ | refine zcn ?_)
    refine run_share [0] rfl ?_
    refine run_share [0] rfl ?_
    repeat (first | refine zck ?_ | refine zcl ?_ | refine zcm ?_ | refine zcn ?_)
    first | refine zcp (by kernel_rfl) ?_ | refine zcq PP_mixed (by kernel_rfl) (by kernel_rfl) ?_
    repeat' (refine zap rfl ?_; first | refine reg_lookupR (hR' _ (fun p hp => by simp [hp])) rfl rfl hv ?_ | refine zan rfl ?_ | refine zaa 0 rfl rfl rfl ?_ | refine zaa 1 rfl rfl rfl ?_ | refine zao rfl ?_)
    all_goals refine zch ?_
    all_goals repeat (first | refine zck ?_ | refine zcl ?_ | refine zcm ?_ | refine zcn ?_)
    repeat' (first | refine zck ?_ | refine zcp (by kernel_rfl) ?_ | refine zcm ?_ | (refine zap rfl ?_; first | refine zaj rfl ?_ | refine zan rfl ?_ | refine zan rfl ?_ | refine zbd rfl rfl (by omega) ?_ | refine zbv rfl ?_) | refine zch ?_ | refine zcj rfl ?_)
    exact ret_tmp2 rfl ⟨rfl, rfl⟩
theorem signs_spec (w0 : World) : Vc.Fn PP w0 [] 71 [] [] (fun v Γ => ∃ m, v = .map (some m) ∧ Γ = [MapS m sgM]) := by
  refine fn_of_run en71 fn71 rfl rfl rfl ?_
  repeat (first | refine zck ?_ | refine zcl ?_ | refine zcm ?_ | refine zcn ?_)
  first | refine zcp (by kernel_rfl) ?_ | refine zcq PP_mixed (by kernel_rfl) (by kernel_rfl) ?_
  repeat' (refine zap rfl ?_; first | refine zan rfl ?_)
  all_goals refine zch ?_
  all_goals repeat (first | refine zck ?_ | refine zcl ?_ | refine zcm ?_ | refine zcn ?_)
  repeat (first | refine zck ?_ | refine zcl ?_ | refine zcm ?_ | refine zcn ?_)
  first | refine zcp (by kernel_rfl) ?_ | refine zcq PP_mixed (by kernel_rfl) (by kernel_rfl) ?_
  repeat' (refine zap rfl ?_; first | refine zae 0 rfl rfl rfl rfl rfl rfl rfl ?_ | refine zae 1 rfl rfl rfl rfl rfl rfl rfl ?_ | refine zae 2 rfl rfl rfl rfl rfl rfl rfl ?_ | refine zae 3 rfl rfl rfl rfl rfl rfl rfl ?_ | refine zar (fun nb => ?_) | refine zcb rfl ?_)
  all_goals refine zch ?_
  all_goals repeat (first | refine zck ?_ | refine zcl ?_ | refine zcm ?_ | refine zcn ?_)
  refine run_share [0] rfl ?_
  refine run_share [0] rfl ?_
  refine run_share [0] rfl ?_
  refine run_share [0] rfl ?_
  repeat (first | refine zck ?_ | refine zcl ?_ | refine zcm ?_ | refine zcn ?_)
  first | refine zcp (by kernel_rfl) ?_ | refine zcq PP_mixed (by kernel_rfl) (by kernel_rfl) ?_
  repeat' (refine zap rfl ?_; first | refine zcc (fun m => ?_) | (refine reg_close (A := MapS m []) [0] rfl rfl (fun g hg => mapS_make m g (Stars.one.1 hg)) ?_; refine reg_insertS 0 rfl rfl rfl rfl rfl ?_) | refine reg_insertS 0 rfl rfl rfl rfl rfl ?_ | refine zan rfl ?_ | refine zan rfl ?_ | refine zaa 0 rfl rfl rfl ?_ | refine zaa 1 rfl rfl rfl ?_ | refine zaa 2 rfl rfl rfl ?_ | refine zaa 3 rfl rfl rfl ?_)
  all_goals refine zch ?_
  all_goals repeat (first | refine zck ?_ | refine zcl ?_ | refine zcm ?_ | refine zcn ?_)
  refine run_close (A := MapS m sgM) [0] rfl (fun g hg => by
    have h2 := Stars.one.1 hg
    refine Eq.mp (congrArg (fun z => MapS m z g) ?_) h2
    kernel_rfl) ?_
  exact ret_tmp1 rfl ⟨m, rfl, rfl⟩
end Go.Proofs.YtijbnjaackhlcaaGreatDoor

