import Derived.Test.YtgdhcgnmffgkiaaGreatDoorPart9
import Derived.Test.YtgdhcgnmffgkiaaGreatDoorKit
import Derived.Test.YtgdhcgnmffgkiaaGreatDoorPart8
/- Own work: lemmas of this claim. -/
namespace Go.Proofs.YtgdhcgnmffgkiaaGreatDoor
variable (w0 : World)
open Go.Vc Sim
set_option maxHeartbeats 4000000
section
variable {w0 : World} {nn : Nat} {sh : Shared} {Q : Exit → Env → List Deferred → List Asn → Prop} {k : List Item} {ρ : Env} {df : List Deferred} {Γ Γr : List Asn}
theorem run_through {β γ : Type} (is : List Nat) {R : γ × Sp} {G : Gh} (hK : G.Ok) {l : GL} (φ : Nat → β → Prop) (f : β → Int → Pg (β × Bool)) (A X : β → Asn) {acc : β} {kk : β × Int × Bool → Pg γ} {p eb b1 b2 b3 b4 : Nat} {s : Sp} {g : Operand} {prm : Tmp} {assign body : Code}
   (hG : At R (G.through l f acc >>= kk) s) (h0 : φ 0 acc) (hφ : ∀ i acc n s, i < 128 → φ i acc → (Pg.run (f acc n) s).1.2 = true → φ (i + 1) (Pg.run (f acc n) s).1.1)
   (hg : ev ρ g = .func (.func 282) #[] #[.pointer (some ⟨b1, 0, none⟩), .pointer (some ⟨b2, 0, none⟩), .pointer (some ⟨b3, 0, none⟩), .pointer (some ⟨b4, 0, none⟩)])
   (hsh : ∀ q ∈ [shP p b1, shL l b2, shG G b3, shE eb b4], q ∈ sh)
   (hp : Nat.blt prm nn = true) (hnd : (noDefC assign && noDefC body) = true) (hpk : pick is Γ = some ([SpaceA p s, A acc, erV eb 0], Γr))
   (hround : ∀ i acc n s R, i < 128 → φ i acc → At R (f acc n) s → Run PP w0 nn sh (fun e ρ' df' Γ' => e = .normal ∧
       Run PP w0 nn sh (rndQ fun jump Γ => jump = (if R.1.2 = true then none else some .ret) ∧ Γ = [SpaceA p R.2, if R.1.2 = true then A R.1.1 else X R.1.1]) [.code body] ρ' df' Γ') [.code assign] (ρ.set prm (.int .i64 n)) [] [SpaceA p s, A acc])
   (hk : ∀ D r s', r = (Pg.run (G.through l f acc) s).1 → At R (kk r) s' → (r.2.2 = false → Run PP w0 nn sh Q k ρ (markD D :: df) (markA D :: [SpaceA p s', A r.1, erV eb r.2.1] ++ Γr)) ∧
       (r.2.2 = true → Q .ret ρ (markD D :: df) (markA D :: [SpaceA p s', X r.1, erV eb r.2.1] ++ Γr))) :
   Run PP w0 nn sh Q (.code (.rangeFunc g #[prm] assign body) :: k) ρ df Γ := by
 refine run_rangeFunc (β := {x : β × Int × Sp // Pg.Fits (f x.1 x.2.1) x.2.2 ∧ ∃ i, i < 128 ∧ φ i x.1}) is (fun x => .int .i64 x.1.2.1) (fun x => [SpaceA p x.1.2.2, A x.1.1]) (RY p φ f A X)
   (fun jump Γ => ∃ r s', r = (Pg.run (G.through l f acc) s).1 ∧ At R (kk r) s' ∧ jump = (if r.2.2 = true then some .ret else none) ∧ Γ = [SpaceA p s', if r.2.2 = true then X r.1 else A r.1, erV eb r.2.1]) hg hp hnd hpk (fun x => let ⟨i, h1, h2⟩ := x.2.2; hround i x.1.1 x.1.2.1 x.1.2.2 _ h1 h2 (At.start x.2.1)) (fun L lp hY => ?_) (fun D jump Γ ⟨r, s', h0, h1, h2, h3⟩ => ?_)
 · have h := ghThrough1 w0 p eb G hK l sh b1 b2 b3 b4 f A X φ hφ L lp (fun x => (hY x).share (fun q hq => List.mem_cons_of_mem _ (List.mem_cons_of_mem _ (List.mem_cons_of_mem _ (List.mem_cons_of_mem _ hq))))) acc h0 s hG.step.1
   refine (h.share (fun q hq => ?_)).mono ?_
   · rcases List.mem_cons.1 hq with rfl | hq
     · exact hsh _ (by simp)
     rcases List.mem_cons.1 hq with rfl | hq
     · exact hsh _ (by simp)
     rcases List.mem_cons.1 hq with rfl | hq
     · exact hsh _ (by simp)
     rcases List.mem_cons.1 hq with rfl | hq
     · exact hsh _ (by simp)
     exact hq
   · rintro v Γ' rfl
     exact ⟨_, _, ⟨_, _, rfl, hG.step.2, rfl, rfl⟩, rfl⟩
 · subst h3
   obtain ⟨k1, k2⟩ := hk D r s' h0 h1
   cases hr : r.2.2 with
   | false => rw [hr] at h2; subst h2; simp only [Bool.false_eq_true, if_false]; exact k1 hr
   | true => rw [hr] at h2; subst h2; simp only [if_true]; exact k2 hr
end
theorem sub4 {P L G E : Nat × Obj} {sh : Shared} : ∀ q ∈ [P, L, G, E], q ∈ E :: L :: P :: G :: sh := by
 intro q hq
 simp only [List.mem_cons, List.not_mem_nil, or_false] at hq ⊢
 rcases hq with rfl | rfl | rfl | rfl <;> simp
abbrev clI2 (b : Nat) (v : Int) : Asn := pt b (.cells (List.toArray [.int .i64 v]) 2 (0, 0))
theorem ghFind (p : Nat) (G : Gh) (hK : G.Ok) (a b : Int) : FnG w0 [] 176 [ghV G, spP p, .int .i64 a, .int .i64 b] p (G.find a b) encI2 := by
 intro s hS; have hG := At.start hS; generalize Pg.run _ s = R at hG ⊢
 unfold Gh.find at hG
 refine zep en176 fn176 rfl rfl rfl ?_
 refine zyr ?_
 repeat' (refine zap rfl ?_;first|refine zar (fun ra => ?_)|refine zaq (cs := [_]) rfl (fun nb => ?_)|refine zaq (cs := [_, _, _, _]) rfl (fun nb => ?_))
 all_goals refine zyn ?_
 rename_i rb
 refine zeb [1] rfl ?_
 refine zeb [1] rfl ?_
 refine zeb [1] rfl ?_
 refine zyr ?_
 repeat' (refine zap rfl ?_;first|refine zar (fun eb => ?_)|refine zae 3 rfl rfl rfl rfl rfl rfl rfl ?_)
 all_goals refine zyn ?_
 first|refine zcp (by kernel_rfl) ?_|refine zcr [(.quiet, 0), (.quiet, 1), (.read, 2), (.quiet, 3), (.loud, 4), (.loud, 5)] PP_mixed (by kernel_rfl) (by kernel_rfl) ?_|refine zeh PP_mixed (by kernel_rfl) (by kernel_rfl) ?_
 repeat' first|(refine zap rfl ?_;first|refine zah [] (ghOut w0 G a) rfl rfl rfl zdj rfl ?_|refine zai [] (ghThrough w0 p eb G (Gh.out a)) rfl rfl rfl zdj (fun v Γ' ⟨b1, b2, b3, b4, q1, q2⟩ => ?_))|refine zp ?_|refine zyl 1 rfl ?_|refine zyl 2 rfl ?_|refine zyn ?_
 subst q1; subst q2
 refine zeb [0] rfl ?_
 refine zeb [0] rfl ?_
 refine zeb [0] rfl ?_
 refine zeb [0] rfl ?_
 refine run_closeB (l := [clI2 rb 0, erV ra 0]) [1, 1] rfl ?_
 repeat (first|refine zck ?_|refine zcl ?_|refine zcm ?_|refine zcn ?_|refine zco ?_)
 refine run_through [1, 0, 0] hK (fun _ _ => True) (Gh.findF b) (fun _ => big [clI2 rb 0, erV ra 0]) (fun r => big [clI2 rb r, erV ra 0]) hG trivial (fun _ _ _ _ _ _ _ => trivial) rfl sub4 rfl (by kernel_rfl) rfl (fun _ acc n s R _ _ hG => ?_) (fun D r s _ hG => ⟨fun hr => ?_, fun hr => ?_⟩)
 · unfold Gh.findF at hG
   refine zyr ?_
   repeat' refine zp ?_
   all_goals refine zyn ?_
   refine run_nil ⟨rfl, ?_⟩
   repeat (first|refine zck ?_|refine zcl ?_|refine zcm ?_|refine zcn ?_|refine zco ?_)
   refine zyx ?_
   first|refine zcp (by kernel_rfl) ?_|refine zcr [(.quiet, 0), (.quiet, 1), (.loud, 2), (.loud, 3), (.quiet, 4), (.quiet, 5)] PP_mixed (by kernel_rfl) (by kernel_rfl) ?_|refine zeh PP_mixed (by kernel_rfl) (by kernel_rfl) ?_
   repeat' first|(refine zap rfl ?_;first|refine zah [] (ghAt w0 _ _) rfl rfl rfl zdj rfl ?_|refine zdk [0] hG (getG w0 p _) rfl rfl rfl zdj (fun x s hG => ?_)|refine zbo rfl rfl ?_)|refine zp ?_|refine zyl 4 rfl ?_|refine zyl 5 rfl ?_|refine zyn ?_
   refine run_openB [1] rfl ?_
   refine zed rfl (fun hx => ?_) (fun hx => ?_)
   · rw [if_pos hx] at hG
     rw [hG.done]
     refine zyr ?_
     repeat' first|(refine zap rfl ?_;first|refine zae 0 rfl rfl rfl rfl rfl rfl rfl ?_|refine zae 1 rfl rfl rfl rfl rfl rfl rfl ?_)|refine zp ?_|refine zyn ?_
     refine run_closeB (l := [clI2 rb n, erV ra 0]) [0, 0] rfl ?_
     refine zec [1, 0] rfl ?_
     exact zeg ⟨rfl, rfl⟩
   · rw [if_neg hx] at hG
     rw [hG.done]
     refine run_closeB (l := [clI2 rb 0, erV ra 0]) [0, 0] rfl ?_
     refine zec [1, 0] rfl ?_
     repeat' first|refine zcm ?_|refine zcn ?_|refine zp ?_|refine zch ?_
     exact run_nil ⟨rfl, rfl⟩
 · rw [hr, if_neg (by decide)] at hG
   refine run_openB [2] rfl ?_
   repeat (first|refine zck ?_|refine zcl ?_|refine zcm ?_|refine zcn ?_|refine zco ?_)
   refine zeb [4] rfl ?_
   refine zyx ?_
   first|refine zcp (by kernel_rfl) ?_|refine zcr [(.quiet, 0), (.loud, 1), (.loud, 2)] PP_mixed (by kernel_rfl) (by kernel_rfl) ?_|refine zeh PP_mixed (by kernel_rfl) (by kernel_rfl) ?_
   repeat' first|(refine zap rfl ?_;first|refine zae 0 rfl rfl rfl rfl rfl rfl rfl ?_|refine zae 1 rfl rfl rfl rfl rfl rfl rfl ?_)|refine zyl 0 rfl ?_|refine zyn ?_
   rw [hG.done]
   exact zeg (leaves_mark [2] rfl (zek (zel [2] rfl (zen rfl (zeo 0 rfl rfl rfl) (zeo 1 rfl rfl rfl) ⟨rfl, rfl, rfl⟩))))
 · rw [hr, if_pos rfl] at hG
   rw [hG.done]
   refine leaves_mark [0] rfl (leaves_openB [1] rfl (zek ?_))
   exact zel [2] rfl (zen rfl (zeo 0 rfl rfl rfl) (zeo 1 rfl rfl rfl) ⟨rfl, rfl, rfl⟩)
abbrev stV (x : Int × Int) : Value := .agg (List.toArray [.int .i64 x.1, .int .i64 x.2])
section
variable {w0 : World} {nn : Nat} {sh : Shared} {Q : Exit → Env → List Deferred → List Asn → Prop} {kk0 : List Item} {ρ : Env} {df : List Deferred} {Γ Γr : List Asn}
theorem run_way {β γ : Type} (is : List Nat) {R : γ × Sp} {T : Te} (hT : T.Ok) {k : Int} (φ : Nat → β → Prop) (f : β → Int × Int → Pg (β × Bool)) (A X : β → Asn) {w : Wk} {acc : β} {kk : (β × Bool) × Wk → Pg γ} {p wb b1 b2 : Nat} {s : Sp} {g : Operand} {prm : Tmp} {assign body : Code}
   (hG : At R (T.way f k w acc >>= kk) s) (h0 : φ 0 acc) (hφ : ∀ i acc x s, i < 128 → φ i acc → (Pg.run (f acc x) s).1.2 = true → φ (i + 1) (Pg.run (f acc x) s).1.1)
   (hg : ev ρ g = .func (.func 272) #[] #[ptrT b1, ptrT b2]) (hsh : ∀ q ∈ [shW wb b1, shK k b2], q ∈ sh)
   (hp : Nat.blt prm nn = true) (hnd : (noDefC assign && noDefC body) = true) (hpk : pick is Γ = some ([SpaceA p s, wkA wb p T w, A acc], Γr))
   (hround : ∀ i acc x w s R, i < 128 → φ i acc → At R (f acc x) s → Run PP w0 nn sh (fun e ρ' df' Γ' => e = .normal ∧
       Run PP w0 nn sh (rndQ fun jump Γ => jump = (if R.1.2 = true then none else some .ret) ∧ Γ = [SpaceA p R.2, wkA wb p T w, if R.1.2 = true then A R.1.1 else X R.1.1]) [.code body] ρ' df' Γ') [.code assign] (ρ.set prm (stV x)) [] [SpaceA p s, wkA wb p T w, A acc])
   (hk : ∀ D r s', r = (Pg.run (T.way f k w acc) s).1 → At R (kk r) s' → (r.1.2 = false → Run PP w0 nn sh Q kk0 ρ (markD D :: df) (markA D :: [SpaceA p s', wkA wb p T r.2, A r.1.1] ++ Γr)) ∧
       (r.1.2 = true → Q .ret ρ (markD D :: df) (markA D :: [SpaceA p s', wkA wb p T r.2, X r.1.1] ++ Γr))) :
   Run PP w0 nn sh Q (.code (.rangeFunc g #[prm] assign body) :: kk0) ρ df Γ := by
 refine run_rangeFunc (β := YX T φ f) is (fun x => stV x.1.2.1) (fun x => [SpaceA p x.1.2.2.2, wkA wb p T x.1.2.2.1, A x.1.1]) (RYt p wb T φ f A X)
   (fun jump Γ => ∃ r s', r = (Pg.run (T.way f k w acc) s).1 ∧ At R (kk r) s' ∧ jump = (if r.1.2 = true then some .ret else none) ∧ Γ = [SpaceA p s', wkA wb p T r.2, if r.1.2 = true then X r.1.1 else A r.1.1]) hg hp hnd hpk (fun x => let ⟨i, h1, h2⟩ := x.2.2; hround i x.1.1 x.1.2.1 x.1.2.2.1 x.1.2.2.2 _ h1 h2 (At.start x.2.1)) (fun L lp hY => ?_) (fun D jump Γ ⟨r, s', h0, h1, h2, h3⟩ => ?_)
 · have h := teWay1 w0 p wb T hT k sh b1 b2 f A X φ hφ L lp (fun x => (hY x).share (fun q hq => List.mem_cons_of_mem _ (List.mem_cons_of_mem _ hq))) w acc h0 s hG.step.1
   refine (h.share (fun q hq => ?_)).mono ?_
   · rcases List.mem_cons.1 hq with rfl | hq
     · exact hsh _ (by simp)
     rcases List.mem_cons.1 hq with rfl | hq
     · exact hsh _ (by simp)
     exact hq
   · rintro v Γ' rfl
     exact ⟨_, _, ⟨_, _, rfl, hG.step.2, rfl, rfl⟩, rfl⟩
 · subst h3
   obtain ⟨k1, k2⟩ := hk D r s' h0 h1
   cases hr : r.1.2 with
   | false => rw [hr] at h2; subst h2; simp only [Bool.false_eq_true, if_false]; exact k1 hr
   | true => rw [hr] at h2; subst h2; simp only [if_true]; exact k2 hr
end
abbrev clB (b : Nat) (v : Bool) : Asn := pt b (.cells (List.toArray [.bool v]) 4 (0, 0))
theorem sub2 {a b : Nat × Obj} {sh : Shared} : ∀ q ∈ [a, b], q ∈ b :: a :: sh := by
 intro q hq
 simp only [List.mem_cons, List.not_mem_nil, or_false] at hq ⊢
 rcases hq with rfl | rfl <;> simp
def encS (x : Int × Int) : List Value := [.int .i64 x.1, .int .i64 x.2]
def stA (b : Nat) (l : List (Int × Int)) : Asn := fun h => ∃ ad cap, Stars [pt b (.cells (List.toArray [.slice ad l.length cap]) 178 (0, 0)), SlA 184 2 ad l.length cap (l.flatMap encS)] h
theorem st_snoc {b : Nat} {ad : Option Addr} {cap : Nat} {acc : List (Int × Int)} {x : Int × Int} {h : Heap} (hs : Stars [pt b (.cells (List.toArray [.slice ad (acc.length + 1) cap]) 178 (0, 0)), SlA 184 2 ad (acc.length + 1) cap (acc.flatMap encS ++ [.int .i64 x.1, .int .i64 x.2])] h) : stA b (acc ++ [x]) h := by
 refine ⟨ad, cap, ?_⟩
 rw [List.flatMap_append, List.length_append]
 simpa [encS] using hs
theorem way_go {β : Type} (T : Te) (f : β → Int × Int → Pg (β × Bool)) (hf : ∀ a x s, (Pg.run (f a x) s).1.2 = true) (k : Int) : ∀ (j : Nat) (a : Int) (w : Wk) (acc : β) (s : Sp), (Pg.run (T.wayK f k j a w acc) s).1.1.2 = false
 | 0, a, w, acc, s => rfl
 | j + 1, a, w, acc, s => by
   unfold Te.wayK
   split
   · rw [Pg.run_bind, Pg.run_bind, if_neg (by rw [hf]; decide)]
     split
     · rfl
     · rw [Pg.run_bind]; exact way_go T f hf k j _ _ _ _
   · rfl
theorem pg_all_mono {α : Type} {φ ψ : α → Prop} (h : ∀ a, φ a → ψ a) : ∀ {g : Pg α}, Pg.All φ g → Pg.All ψ g
 | .ret _, hg => h _ hg
 | .get _ _, hg => fun v => pg_all_mono h (hg v)
 | .put _ _ k, hg => pg_all_mono (g := k) h hg
 | .mark _, hg => fun m => pg_all_mono h (hg m)
 | .back _ k, hg => pg_all_mono (g := k) h hg
theorem all_wayPath (T : Te) (k : Int) : ∀ (j : Nat) (a : Int) (w : Wk) (acc : List (Int × Int)), Pg.All (fun r : (List (Int × Int) × Bool) × Wk => r.1.1.length ≤ acc.length + j) (T.wayK Te.pathF k j a w acc)
 | 0, a, w, acc => Pg.all_pure (by dsimp only; omega)
 | j + 1, a, w, acc => by
   unfold Te.wayK
   refine Pg.all_ite (fun _ => ?_) (fun _ => Pg.all_pure (by dsimp only; omega))
   refine Pg.all_then (fun key => ?_)
   refine Pg.all_bind (ψ := fun r => r.1.length = acc.length + 1) (fun r hr => ?_) (by show _ = _; simp)
   refine Pg.all_ite (fun _ => Pg.all_pure (by dsimp only; omega)) (fun _ => Pg.all_ite (fun _ => Pg.all_pure (by dsimp only; omega)) (fun _ => ?_))
   refine Pg.all_then (fun b => ?_)
   have := all_wayPath T k j b (T.is a w).2 r.1
   rw [hr] at this
   rw [show acc.length + (j + 1) = acc.length + 1 + j by omega]
   exact this
theorem all_way (T : Te) (hT : T.Ok) (k : Int) (w : Wk) : Pg.All (fun r : (List (Int × Int) × Bool) × Wk => r.1.1.length ≤ 128) (T.way Te.pathF k w []) := by
 unfold Te.way
 refine Pg.all_then (fun a => ?_)
 have h := all_wayPath T k T.pool.nodes.toNat a w []
 have hb : ([] : List (Int × Int)).length + T.pool.nodes.toNat ≤ 128 := by have := hT.1.2.2.2.2.2.2; simp; omega
 exact pg_all_mono (fun r hr => Nat.le_trans hr hb) h
theorem all_path (T : Te) (hT : T.Ok) (k : Int) (w : Wk) : Pg.All (fun r : (List (Int × Int) × Bool) × Wk => r.1.1.length ≤ 128) (T.path k w) := by
 unfold Te.path
 exact Pg.all_bind (fun r hr => Pg.all_pure (by exact hr)) (all_way T hT k w)
theorem stars_last {A B C C' : Asn} (hC : ∀ g, C g → C' g) {h : Heap} (hs : Stars [A, B, C] h) : Stars [A, B, C'] h := by
 obtain ⟨g1, g2, d1, e1, hA, g3, g4, d2, e2, hB, hl⟩ := hs
 exact ⟨g1, g2, d1, e1, hA, g3, g4, d2, e2, hB, Stars.one.2 (hC _ (Stars.one.1 hl))⟩
theorem tePath (p wb : Nat) (T : Te) (hT : T.Ok) (k : Int) (w : Wk) : ∀ s, Pg.Fits (T.path k w) s → Vc.Fn PP w0 [] 133 [ptrT wb, .int .i64 k] [SpaceA p s, wkA wb p T w]
   (fun v Γ => ∃ v', v = .tuple #[v', .bool (Pg.run (T.path k w) s).1.1.2] ∧ Γ = [SpaceA p (Pg.run (T.path k w) s).2, wkA wb p T (Pg.run (T.path k w) s).1.2, LstE encS 2 184 v' (Pg.run (T.path k w) s).1.1.1]) := by
 intro s hS; have hG := At.start hS; generalize Pg.run _ s = R at hG ⊢
 unfold Te.path at hG
 refine zep en133 fn133 rfl rfl rfl ?_
 refine zyr ?_
 repeat' refine zp ?_
 all_goals refine zyn ?_
 refine zyr ?_
 repeat' (refine zap rfl ?_;refine zar (fun sb => ?_))
 all_goals refine zyn ?_
 refine zyr ?_
 repeat' first|(refine zap rfl ?_;refine zai [] (teWay w0 wb k) rfl rfl rfl zdj (fun | _, _, ⟨b1, b2, rfl, rfl⟩ => ?_))|refine zp ?_|refine zyn ?_
 refine zeb [0] rfl ?_
 refine zeb [0] rfl ?_
 refine run_close (A := stA sb []) [2] rfl (fun h hs => ⟨none, 0, h, Heap.emp, Disj.emp_right h, (Heap.or_emp h).symm, Stars.one.1 hs, Stars.one.2 ⟨rfl, rfl, rfl, rfl⟩⟩) ?_
 repeat (first|refine zck ?_|refine zcl ?_|refine zcm ?_|refine zcn ?_|refine zco ?_)
 refine run_way [1, 1, 0] hT (fun i acc => acc.length = i) Te.pathF (fun l => stA sb l) (fun _ => big []) hG rfl (fun i acc n s hi h _ => by simp [Te.pathF, Pg.run, pure, h]) rfl sub2 rfl (by kernel_rfl) rfl (fun i acc x w s R hi hph hG => ?_) (fun D r s hq hG => ⟨fun hr => ?_, fun hr => ?_⟩)
 · unfold Te.pathF at hG
   refine zyr ?_
   repeat' (refine zap rfl ?_;first|refine zar (fun q => ?_)|refine zae 3 rfl rfl rfl rfl rfl rfl rfl ?_)
   all_goals refine zyn ?_
   refine run_nil ⟨rfl, ?_⟩
   repeat (first|refine zck ?_|refine zcl ?_|refine zcm ?_|refine zcn ?_|refine zco ?_)
   refine run_open (A := stA sb acc) [2] (fun i : Option Addr × Nat => [pt sb (.cells (List.toArray [.slice i.1 acc.length i.2]) 178 (0, 0)), SlA 184 2 i.1 acc.length i.2 (acc.flatMap encS)]) rfl (fun h ⟨ad, cap, hs⟩ => ⟨(ad, cap), hs⟩) (fun ⟨ad, cap⟩ => ?_)
   refine zyr ?_
   repeat' (refine zap rfl ?_;first|refine zdt rfl rfl rfl rfl rfl rfl (fun nb2 => ?_)|refine zab 0 rfl rfl rfl ?_|refine zab 4 rfl rfl rfl ?_|refine zdz 1 5 rfl rfl rfl rfl rfl rfl rfl rfl (by omega) (fun _ _ => rfl) (fun a' cap' => ?_)|refine zae 0 rfl rfl rfl rfl rfl rfl rfl ?_)
   all_goals refine zyn ?_
   refine run_close (A := stA sb (acc ++ [x])) [0, 0] rfl (fun h hs => st_snoc hs) ?_
   refine zec [1, 1, 0] rfl ?_
   rw [hG.done]
   repeat (first|refine zck ?_|refine zcl ?_|refine zcm ?_|refine zcn ?_|refine zco ?_)
   exact run_nil ⟨rfl, rfl⟩
 · rw [hG.done]
   refine run_open (A := stA sb r.1.1) [3] (fun i : Option Addr × Nat => [pt sb (.cells (List.toArray [.slice i.1 r.1.1.length i.2]) 178 (0, 0)), SlA 184 2 i.1 r.1.1.length i.2 (r.1.1.flatMap encS)]) rfl (fun h ⟨ad, cap, hs⟩ => ⟨(ad, cap), hs⟩) (fun ⟨ad, cap⟩ => ?_)
   refine run_lendSl encS [1] rfl (fun x _ => rfl) rfl (fun sh' hi hR => ?_)
   repeat (first|refine zck ?_|refine zcl ?_|refine zcm ?_|refine zcn ?_|refine zco ?_)
   have hlen0 : r.1.1.length ≤ 128 := by rw [hq]; exact Pg.all_run (all_way T hT k w)
   generalize r.1.1 = l at hR hlen0 ⊢
   dsimp only at hR
   rcases List.eq_nil_or_concat l with rfl | ⟨L, x, he⟩
   · repeat' first|refine zeh PP_mixed (by kernel_rfl) (by kernel_rfl) ?_|(refine zap rfl ?_;first|refine zak rfl ?_|refine zab 0 rfl rfl rfl ?_|refine zce rfl ?_|refine zbs rfl rfl ?_|refine zbv rfl ?_)|refine zp ?_|refine zch ?_
     exact zeg (leaves_mark [1] rfl (zek (ends_takeconv [1, 1, 1] (Γ' := [SpaceA p s, wkA wb p T r.2, LstE encS 2 184 (.slice ad 0 cap) []]) rfl (fun h hs => stars_last (C' := LstE encS 2 184 (.slice ad 0 cap) []) (fun g hg => LstE.ofSl (l := []) (len := 0) (fun x hx => by cases hx) rfl g hg) hs) (zen rfl rfl rfl ⟨rfl, _, rfl, rfl⟩))))
   · rw [List.concat_eq_append] at he
     subst he
     obtain ⟨b, off, c, t, fr, rfl, e2, e3, e4⟩ := hR.cells (i := L.length) (x := x) (by simp)
     have hlen : (L ++ [x]).length = L.length + 1 := by simp
     have hkey : Te.hasKey k (L ++ [x]) = decide (x.2 = k) := by simp [Te.hasKey]
     rw [hlen] at hlen0
     rw [hlen, hkey]
     repeat' first|refine zeh PP_mixed (by kernel_rfl) (by kernel_rfl) ?_|(refine zap rfl ?_;first|refine zad rfl e2 (e4 1 _ rfl _ (by omega)) ?_|refine zaj rfl ?_|refine zab 0 rfl rfl rfl ?_|refine zce rfl ?_|refine zbk rfl rfl (by omega) ?_|refine zav rfl rfl (by omega) ?_|refine zbo rfl rfl ?_|refine zbu rfl ?_|refine zas rfl rfl (by omega) ?_)|refine zp ?_|refine zyf rfl ?_|refine zch ?_
     exact zeg (leaves_mark [1] rfl (zek (ends_takeconv [1, 1, 1] (Γ' := [SpaceA p s, wkA wb p T r.2, LstE encS 2 184 (.slice (some ⟨b, off, none⟩) (L.length + 1) cap) (L ++ [x])]) rfl (fun h hs => stars_last (C := SlA 184 2 (some ⟨b, off, none⟩) (L.length + 1) cap ((L ++ [x]).flatMap encS)) (C' := LstE encS 2 184 (.slice (some ⟨b, off, none⟩) (L.length + 1) cap) (L ++ [x])) (fun g hg => LstE.ofSl (encE := encS) (q := 2) (l := L ++ [x]) (len := L.length + 1) (fun x _ => rfl) hlen g hg) hs) (zen rfl rfl rfl ⟨rfl, _, rfl, rfl⟩))))
 · exact absurd (hq ▸ hr) (by unfold Te.way; rw [Pg.run_bind, way_go T _ (fun _ _ _ => rfl)]; decide)
theorem teGetKey (p : Nat) (T : Te) (hT : T.Ok) (k : Int) : FnG w0 [] 66 [teV T, spP p, .int .i64 k] p (T.get k) (fun r => .tuple #[.int .i64 r.1, .bool r.2]) := by
 intro s hS; have hG := At.start hS; generalize Pg.run _ s = R at hG ⊢
 unfold Te.get at hG
 refine zep en66 fn66 rfl rfl rfl ?_
 refine zyr ?_
 repeat' (refine zap rfl ?_;first|refine zar (fun rb => ?_)|refine zaq (cs := [_]) rfl (fun nb => ?_)|refine zaq (cs := [_, _, _, _]) rfl (fun nb => ?_))
 all_goals refine zyn ?_
 rename_i ra
 refine zeb [1] rfl ?_
 refine zeb [1] rfl ?_
 refine zyr ?_
 repeat' first|(refine zap rfl ?_;first|refine zar (fun c8 => ?_)|refine zai [] (teStart w0 p T) rfl rfl rfl zdj (fun | _, _, ⟨wb, rfl, rfl⟩ => ?_)|refine zae 4 rfl rfl rfl rfl rfl rfl rfl ?_)|refine zp ?_|refine zyl 1 rfl ?_|refine zyn ?_
 refine zeb [4] rfl ?_
 refine zyr ?_
 repeat' first|(refine zap rfl ?_;refine zai [] (teWay w0 wb k) rfl rfl rfl zdj (fun | _, _, ⟨b1, b2, rfl, rfl⟩ => ?_))|refine zyl 0 rfl ?_|refine zyl 1 rfl ?_|refine zyn ?_
 refine zeb [0] rfl ?_
 refine zeb [0] rfl ?_
 refine run_closeB (l := [clI2 ra 0, clB rb false]) [2, 2] rfl ?_
 repeat (first|refine zck ?_|refine zcl ?_|refine zcm ?_|refine zcn ?_|refine zco ?_)
 refine run_way [2, 1, 0] hT (fun _ _ => True) (Te.getF k) (fun _ => big [clI2 ra 0, clB rb false]) (fun v => big [clI2 ra v, clB rb true]) hG trivial (fun _ _ _ _ _ _ _ => trivial) rfl sub2 rfl (by kernel_rfl) rfl (fun i acc x w s R _ _ hG => ?_) (fun D r s hq hG => ⟨fun hr => ?_, fun hr => ?_⟩)
 · unfold Te.getF at hG
   refine zyr ?_
   repeat' (refine zap rfl ?_;first|refine zar (fun q => ?_)|refine zae 3 rfl rfl rfl rfl rfl rfl rfl ?_)
   all_goals refine zyn ?_
   refine run_nil ⟨rfl, ?_⟩
   repeat (first|refine zck ?_|refine zcl ?_|refine zcm ?_|refine zcn ?_|refine zco ?_)
   refine zyr ?_
   repeat' first|(refine zap rfl ?_;first|refine zab 3 rfl rfl rfl ?_|refine zbo rfl rfl ?_)|refine zyl 3 rfl ?_|refine zyf rfl ?_|refine zyn ?_
   refine run_openB [2] rfl ?_
   refine zed rfl (fun hx => ?_) (fun hx => ?_)
   · rw [if_pos hx] at hG
     refine zyr ?_
     repeat' first|(refine zap rfl ?_;first|refine zab 4 rfl rfl rfl ?_|refine zdn [2, 2] hG (teGet w0 p wb T w x.1 1) rfl rfl rfl (fun v s hG => ?_)|refine zae 2 rfl rfl rfl rfl rfl rfl rfl ?_|refine zae 3 rfl rfl rfl rfl rfl rfl rfl ?_)|refine zyl 2 rfl ?_|refine zyf rfl ?_|refine zyn ?_
     rw [hG.done]
     refine run_closeB (l := [clI2 ra v, clB rb true]) [2, 2] rfl ?_
     refine zec [1, 1, 0] rfl ?_
     exact zeg ⟨rfl, rfl⟩
   · rw [if_neg hx] at hG
     rw [hG.done]
     refine run_closeB (l := [clI2 ra 0, clB rb false]) [0, 0] rfl ?_
     refine zec [1, 1, 0] rfl ?_
     repeat' first|refine zcm ?_|refine zcn ?_|refine zp ?_|refine zch ?_
     exact run_nil ⟨rfl, rfl⟩
 · rw [hr, if_neg (by decide)] at hG
   rw [hG.done]
   refine run_openB [3] rfl ?_
   repeat' first|refine zck ?_|refine zcn ?_|refine zyq ?_|(refine zap rfl ?_;first|refine zae 0 rfl rfl rfl rfl rfl rfl rfl ?_|refine zae 1 rfl rfl rfl rfl rfl rfl rfl ?_)|refine zch ?_
   exact zeg (leaves_mark [2] rfl (zek (zel [2] rfl (zen rfl (zeo 0 rfl rfl rfl) (zeo 1 rfl rfl rfl) ⟨rfl, rfl, rfl⟩))))
 · rw [hr, if_pos rfl] at hG
   rw [hG.done]
   refine leaves_mark [0] rfl (leaves_openB [2] rfl (zek ?_))
   exact zel [2] rfl (zen rfl (zeo 0 rfl rfl rfl) (zeo 1 rfl rfl rfl) ⟨rfl, rfl, rfl⟩)
set_option maxRecDepth 20000
theorem teNext (p : Nat) (T : Te) (hT : T.Ok) (k : Int) : FnG w0 [] 70 [teV T, spP p, .int .i64 k] p (T.next k) (fun r => .tuple #[.int .i64 r.1, .bool r.2]) := by
 intro s hS; have hG := At.start hS; generalize Pg.run _ s = R at hG ⊢
 unfold Te.next at hG
 refine zep en70 fn70 rfl rfl rfl ?_
 refine zyr ?_
 repeat' first|(refine zap rfl ?_;first|refine zaq (cs := [_]) rfl (fun nb => ?_)|refine zaq (cs := [_, _, _, _]) rfl (fun nb => ?_))|refine zp ?_|refine zyn ?_
 refine zeb [1] rfl ?_
 refine zeb [1] rfl ?_
 refine zyr ?_
 repeat' first|(refine zap rfl ?_;refine zai [] (teStart w0 p T) rfl rfl rfl zdj (fun | _, _, ⟨wb, rfl, rfl⟩ => ?_))|refine zp ?_|refine zyl 1 rfl ?_|refine zyn ?_
 refine zyr ?_
 repeat' (refine zap rfl ?_;first|refine zar (fun ra => ?_)|refine zae 2 rfl rfl rfl rfl rfl rfl rfl ?_|refine zae 3 rfl rfl rfl rfl rfl rfl rfl ?_)
 all_goals refine zyn ?_
 rename_i rb
 revert rb ra; intro ra rb
 refine zyr ?_
 repeat' first|(refine zap rfl ?_;refine zai [] (teWay w0 wb k) rfl rfl rfl zdj (fun | _, _, ⟨b1, b2, rfl, rfl⟩ => ?_))|refine zp ?_|refine zyl 0 rfl ?_|refine zyn ?_
 refine zeb [0] rfl ?_
 refine zeb [0] rfl ?_
 refine run_closeB (l := [clI2 ra 0, clB rb false]) [2, 2] rfl ?_
 repeat (first|refine zck ?_|refine zcl ?_|refine zcm ?_|refine zcn ?_|refine zco ?_)
 refine run_way [2, 1, 0] hT (fun _ _ => True) (Te.nextF k) (fun r => big [clI2 ra r.1, clB rb r.2]) (fun _ => big []) hG trivial (fun _ _ _ _ _ _ _ => trivial) rfl sub2 rfl (by kernel_rfl) rfl (fun i acc x w s R _ _ hG => ?_) (fun D r s hq hG => ⟨fun hr => ?_, fun hr => ?_⟩)
 · unfold Te.nextF at hG
   refine zyr ?_
   repeat' (refine zap rfl ?_;first|refine zar (fun q => ?_)|refine zae 3 rfl rfl rfl rfl rfl rfl rfl ?_)
   all_goals refine zyn ?_
   refine run_nil ⟨rfl, ?_⟩
   repeat (first|refine zck ?_|refine zcl ?_|refine zcm ?_|refine zcn ?_|refine zco ?_)
   refine zyr ?_
   repeat' first|(refine zap rfl ?_;first|refine zab 3 rfl rfl rfl ?_|refine zbt rfl rfl ?_)|refine zyl 2 rfl ?_|refine zyf rfl ?_|refine zyn ?_
   refine run_openB [2] rfl ?_
   refine zed rfl (fun hx => ?_) (fun hx => ?_)
   · rw [if_pos hx] at hG
     rw [hG.done]
     repeat' first|refine zcn ?_|refine zyq ?_|(refine zap rfl ?_;first|refine zab 4 rfl rfl rfl ?_|refine zae 0 rfl rfl rfl rfl rfl rfl rfl ?_|refine zae 1 rfl rfl rfl rfl rfl rfl rfl ?_)|refine zyf rfl ?_|refine zch ?_
     refine run_closeB (l := [clI2 ra x.2, clB rb true]) [0, 0] rfl ?_
     refine zec [1, 1, 0] rfl ?_
     exact run_nil ⟨rfl, rfl⟩
   · rw [if_neg hx] at hG
     rw [hG.done]
     refine run_closeB (l := [clI2 ra acc.1, clB rb acc.2]) [0, 0] rfl ?_
     refine zec [1, 1, 0] rfl ?_
     repeat' first|refine zcm ?_|refine zcn ?_|refine zp ?_|refine zch ?_
     exact run_nil ⟨rfl, rfl⟩
 · rw [hG.done]
   refine run_openB [3] rfl ?_
   refine zeb [0] rfl ?_
   refine zeb [0] rfl ?_
   repeat' first|refine zck ?_|refine zcn ?_|refine zyq ?_|refine zp ?_|refine zyl 0 rfl ?_|refine zyl 1 rfl ?_|refine zch ?_
   exact zeg (leaves_mark [0] rfl (zek (zel [0] rfl (zen rfl rfl rfl ⟨rfl, rfl, rfl⟩))))
 · exact absurd (hq ▸ hr) (by unfold Te.way; rw [Pg.run_bind, way_go T _ (fun _ _ _ => rfl)]; decide)
theorem teSumO (p wb : Nat) (T : Te) (w : Wk) (a : Int) : FnG w0 [(wb, wkO p T w 182)] 144 [ptrT wb, .int .i64 a] p (Te.sumO a) (.int .i64) := by
 intro s hS
 have hG := (At.start hS).to (Pg.bind_pure _).symm
 generalize Pg.run _ s = R at hG ⊢
 unfold Te.sumO at hG
 refine zep en144 fn144 rfl rfl rfl ?_
 repeat' first|refine zck ?_|refine zyq ?_|(refine zap rfl ?_;refine zdk [0] hG (teGet w0 p wb T w a 1) rfl rfl rfl (fun _ h => h) (fun v s hG => ?_))|refine zp ?_|refine zch ?_
 rw [hG.done]
 exact zej rfl ⟨rfl, rfl⟩
theorem teCountO (p wb : Nat) (T : Te) (w : Wk) (a : Int) : FnG w0 [(wb, wkO p T w 182)] 145 [ptrT wb, .int .i64 a] p (Te.countO a) (.int .i64) := by
 intro s hS
 have hG := At.start hS
 generalize Pg.run _ s = R at hG ⊢
 unfold Te.countO at hG
 rw [hG.done]
 refine zep en145 fn145 rfl rfl rfl ?_
 repeat' first|refine zck ?_|refine zyq ?_|refine zp ?_|refine zch ?_
 exact zej rfl ⟨rfl, rfl⟩
theorem teUntil (p : Nat) (T : Te) (hT : T.Ok) (k : Int) (inc : Bool) (cell : Int) (fO : FuncId) (own : Int → Pg Int) (hO : ∀ wb w a, FnG w0 [(wb, wkO p T w 182)] fO [ptrT wb, .int .i64 a] p (own a) (.int .i64)) :
   FnG w0 [] 273 [teV T, spP p, .int .i64 k, .bool inc, .int .i64 cell, .func (.func fO) #[] #[]] p (T.until_ k inc cell own) (.int .i64) := by
 intro s hS; have hG := At.start hS; generalize Pg.run _ s = R at hG ⊢
 unfold Te.until_ at hG
 obtain ⟨⟨hp1, hp2, hp3, hp4, hp5, hp6, hp7⟩, _, _⟩ := id hT
 refine zep en273 fn273 rfl rfl rfl ?_
 refine zyr ?_
 repeat' first|(refine zap rfl ?_;refine zaq (cs := [_, _, _, _]) rfl (fun nb => ?_))|refine zp ?_|refine zyn ?_
 revert nb; intro gb
 refine zeb [1] rfl ?_
 refine zyr ?_
 repeat' first|(refine zap rfl ?_;refine zai [] (teStart w0 p T) rfl rfl rfl zdj (fun | _, _, ⟨wb, rfl, rfl⟩ => ?_))|refine zp ?_|refine zyl 0 rfl ?_|refine zyn ?_
 refine zyr ?_
 repeat' refine zp ?_
 all_goals refine zyn ?_
 refine zyr ?_
 repeat' refine zp ?_
 all_goals refine zyn ?_
 refine zyr ?_
 repeat' first|(refine zap rfl ?_;refine zdk [1] hG (getG w0 p _) rfl rfl rfl zdj (fun a s hG => ?_))|refine zp ?_|refine zyl 0 rfl ?_|refine zyf rfl ?_|refine zyn ?_
 refine run_loop (S := Int × Nat × Wk × Int × Sp) (fun v => [(1, spP p), (2, .int .i64 k), (3, .bool inc), (4, .int .i64 cell), (5, .func (.func fO) #[] #[]), (6, ptrT gb), (13, ptrT wb), (14, .int .i64 v.2.2.2.1), (15, .int .i64 (T.pool.nodes - v.2.1)), (16, .int .i64 v.1)])
   (fun v Γ => Γ = [SpaceA p v.2.2.2.2, wkA wb p T v.2.2.1] ∧ At R (T.untilK k inc cell own v.2.1 v.1 v.2.2.1 v.2.2.2.1) v.2.2.2.2 ∧ v.2.1 ≤ T.pool.nodes.toNat) (fun v => v.2.1) (a, T.pool.nodes.toNat, T.start, 0, s) ⟨rfl, rfl, rfl, rfl, rfl, rfl, rfl, rfl, by show Value.int .i64 0 = _; congr 1; dsimp only; omega, rfl, trivial⟩ ⟨rfl, hG, Nat.le_refl _⟩ ?_
 rintro ⟨a, j, w, total, s⟩ Γ junk ⟨rfl, hG, hle⟩
 dsimp only at hG hle ⊢
 have ki := teIs w0 p wb T hT w a
 cases hI : (T.is a w).1 with
 | false =>
   have hG : At R (Pg.ret total) s := by
     cases j with
     | zero => exact hG
     | succ j => rw [Te.untilK, hI, if_neg (by decide)] at hG; exact hG
   rw [hI] at ki
   rw [hG.done]
   refine zyr ?_
   repeat' first|(refine zap rfl ?_;first|refine zak rfl ?_|refine zah [1] ki rfl rfl rfl zdj rfl ?_|refine zbv rfl ?_)|refine zp ?_|refine zyn ?_
   refine zcj rfl ?_
   refine zer rfl rfl ?_
   repeat' first|refine zck ?_|refine zyq ?_|refine zp ?_|refine zch ?_
   refine zec [1] rfl ?_
   exact zej rfl ⟨rfl, rfl⟩
 | true =>
 rw [hI] at ki
 cases j with
 | zero =>
   rw [hG.done]
   refine zyr ?_
   repeat' first|(refine zap rfl ?_;first|refine zaj rfl ?_|refine zah [1] ki rfl rfl rfl zdj rfl ?_|refine zbh rfl rfl (by omega) ?_|refine zbu rfl ?_)|refine zp ?_|refine zyl 0 rfl ?_|refine zyf rfl ?_|refine zyn ?_
   refine zcj rfl ?_
   refine zer rfl rfl ?_
   repeat' first|refine zck ?_|refine zyq ?_|refine zp ?_|refine zch ?_
   refine zec [1] rfl ?_
   exact zej rfl ⟨rfl, rfl⟩
 | succ j =>
   have h64 := wrap64_id (m := T.pool.nodes - ((j + 1 : Nat) : Int) + 1) (by omega) (by omega)
   rw [Te.untilK, hI, if_pos rfl] at hG
   refine zyr ?_
   repeat' first|(refine zap rfl ?_;first|refine zaj rfl ?_|refine zah [1] ki rfl rfl rfl zdj rfl ?_|refine zbg rfl rfl (by omega) ?_|refine zbu rfl ?_)|refine zp ?_|refine zyl 0 rfl ?_|refine zyf rfl ?_|refine zyn ?_
   refine zci rfl ?_
   repeat (first|refine zck ?_|refine zcl ?_|refine zcm ?_|refine zcn ?_|refine zco ?_)
   refine zyr ?_
   repeat' first|(refine zap rfl ?_;refine zdn [1, 0] hG (teGet w0 p wb T _ a 0) rfl rfl rfl (fun key s hG => ?_))|refine zp ?_|refine zyn ?_
   by_cases hk : key > k ∨ (key = k ∧ inc = false)
   · rw [if_pos hk] at hG
     by_cases hk1 : key > k
     · repeat' first|refine zck ?_|refine zyq ?_|refine zcs rfl ?_|(refine zap rfl ?_;first|refine zak rfl ?_|refine zal rfl ?_|refine zdn [0, 0] hG (teGet w0 p wb T _ a 2) rfl rfl rfl (fun b s hG => ?_)|refine zbk rfl rfl (by omega) ?_|refine zau rfl rfl (by omega) ?_|refine zbu rfl ?_)|refine zp ?_|refine zch ?_|refine zci rfl ?_
       exact zeq ⟨rfl, (b, j, (T.is a w).2, total, s), ⟨rfl, rfl, rfl, rfl, rfl, rfl, rfl, rfl, by show Value.int .i64 _ = _; congr 1; dsimp only; omega, rfl, trivial⟩, ⟨rfl, hG, by dsimp only; omega⟩, Nat.lt_succ_self j⟩
     · obtain ⟨hk2, hk3⟩ := hk.resolve_left hk1
       subst hk3
       repeat' first|refine zck ?_|refine zyq ?_|refine zcs rfl ?_|(refine zap rfl ?_;first|refine zbx rfl ?_|refine zaj rfl ?_|refine zdn [0, 0] hG (teGet w0 p wb T _ a 2) rfl rfl rfl (fun b s hG => ?_)|refine zbc rfl rfl (by omega) ?_|refine zbl rfl rfl (by omega) ?_|refine zau rfl rfl (by omega) ?_|refine zbu rfl ?_|refine zbv rfl ?_)|refine zp ?_|refine zch ?_|refine zci rfl ?_
       exact zeq ⟨rfl, (b, j, (T.is a w).2, total, s), ⟨rfl, rfl, rfl, rfl, rfl, rfl, rfl, rfl, by show Value.int .i64 _ = _; congr 1; dsimp only; omega, rfl, trivial⟩, ⟨rfl, hG, by dsimp only; omega⟩, Nat.lt_succ_self j⟩
   · rw [if_neg hk] at hG
     have hk1 : ¬ key > k := fun h => hk (.inl h)
     by_cases hk2 : key = k
     · have hk3 : inc = true := by cases inc with
         | true => rfl
         | false => exact absurd (.inr ⟨hk2, rfl⟩) hk
       subst hk3
       repeat' first|refine zck ?_|refine zcm ?_|refine zcn ?_|refine zyq ?_|(refine zap rfl ?_;first|refine zbx rfl ?_|refine zdu rfl rfl ?_|refine zaj rfl ?_|refine zai [] (teStart w0 p T) rfl rfl rfl zdj (fun | _, _, ⟨wi, rfl, rfl⟩ => ?_)|refine zdn [1, 1] hG (hO wb _ a) rfl rfl rfl (fun o s hG => ?_)|refine zdn [0, 0] hG (teGet w0 p wb T _ a 2) rfl rfl rfl (fun b s hG => ?_)|refine zdq [0, 1] hG (teOf w0 p wi T hT _ b cell) rfl rfl rfl (fun x w3 s hG => ?_)|refine zdn [0, 1] hG (teGet w0 p wb T _ a 3) rfl rfl rfl (fun c s hG => ?_)|refine zbc rfl rfl (by omega) ?_|refine zbl rfl rfl (by omega) ?_|refine zbu rfl ?_|refine zbv rfl ?_)|refine zp ?_|refine zyl 0 rfl ?_|refine zch ?_|refine zcj rfl ?_
       refine zec [0, 0] rfl ?_
       exact zeq ⟨rfl, (c, j, (T.is a w).2, w64 (total + w64 (o + x)), s), ⟨rfl, rfl, rfl, rfl, rfl, rfl, rfl, rfl, by show Value.int .i64 _ = _; congr 1; dsimp only; omega, rfl, trivial⟩, ⟨rfl, hG, by dsimp only; omega⟩, Nat.lt_succ_self j⟩
     · repeat' first|refine zck ?_|refine zcm ?_|refine zcn ?_|refine zyq ?_|(refine zap rfl ?_;first|refine zdu rfl rfl ?_|refine zaj rfl ?_|refine zak rfl ?_|refine zai [] (teStart w0 p T) rfl rfl rfl zdj (fun | _, _, ⟨wi, rfl, rfl⟩ => ?_)|refine zdn [1, 1] hG (hO wb _ a) rfl rfl rfl (fun o s hG => ?_)|refine zdn [0, 0] hG (teGet w0 p wb T _ a 2) rfl rfl rfl (fun b s hG => ?_)|refine zdq [0, 1] hG (teOf w0 p wi T hT _ b cell) rfl rfl rfl (fun x w3 s hG => ?_)|refine zdn [0, 1] hG (teGet w0 p wb T _ a 3) rfl rfl rfl (fun c s hG => ?_)|refine zbd rfl rfl (by omega) ?_|refine zbl rfl rfl (by omega) ?_|refine zbv rfl ?_)|refine zp ?_|refine zyl 0 rfl ?_|refine zch ?_|refine zcj rfl ?_
       refine zec [0, 0] rfl ?_
       exact zeq ⟨rfl, (c, j, (T.is a w).2, w64 (total + w64 (o + x)), s), ⟨rfl, rfl, rfl, rfl, rfl, rfl, rfl, rfl, by show Value.int .i64 _ = _; congr 1; dsimp only; omega, rfl, trivial⟩, ⟨rfl, hG, by dsimp only; omega⟩, Nat.lt_succ_self j⟩
theorem teBetween (p : Nat) (T : Te) (hT : T.Ok) (x y cell : Int) (fO : FuncId) (own : Int → Pg Int) (hO : ∀ wb w a, FnG w0 [(wb, wkO p T w 182)] fO [ptrT wb, .int .i64 a] p (own a) (.int .i64)) :
   FnG w0 [] 143 [teV T, spP p, .int .i64 x, .int .i64 y, .int .i64 cell, .func (.func fO) #[] #[]] p (T.between x y cell own) (.int .i64) := by
 intro s hS; have hG := At.start hS; generalize Pg.run _ s = R at hG ⊢
 unfold Te.between at hG
 refine zep en143 fn143 rfl rfl rfl ?_
 refine zyr ?_
 repeat' first|(refine zap rfl ?_;refine zaq (cs := [_, _, _, _]) rfl (fun nb => ?_))|refine zp ?_|refine zyn ?_
 refine zeb [1] rfl ?_
 refine zyr ?_
 repeat' first|(refine zap rfl ?_;refine zbs rfl rfl ?_)|refine zp ?_|refine zyn ?_
 refine zed rfl (fun hx => ?_) (fun hx => ?_)
 · rw [if_pos hx] at hG
   rw [hG.done]
   repeat' first|refine zck ?_|refine zyq ?_|refine zp ?_|refine zch ?_
   exact zej rfl ⟨rfl, rfl⟩
 · rw [if_neg hx] at hG
   repeat' first|refine zck ?_|refine zcm ?_|refine zyq ?_|(refine zap rfl ?_;first|refine zev rfl rfl ?_|refine zdk [0] hG (teUntil w0 p T hT y true cell fO own hO) rfl rfl rfl zdj (fun a s hG => ?_)|refine zdk [0] hG (teUntil w0 p T hT x false cell fO own hO) rfl rfl rfl zdj (fun b s hG => ?_))|refine zp ?_|refine zyl 0 rfl ?_|refine zch ?_
   rw [hG.done]
   exact zej rfl ⟨rfl, rfl⟩
theorem teSum (p : Nat) (T : Te) (hT : T.Ok) (x y : Int) : FnG w0 [] 68 [teV T, spP p, .int .i64 x, .int .i64 y] p (T.between x y 5 Te.sumO) (.int .i64) := by
 intro s hS
 have hG := (At.start hS).to (Pg.bind_pure _).symm
 generalize Pg.run _ s = R at hG ⊢
 refine zep en68 fn68 rfl rfl rfl ?_
 refine zyr ?_
 repeat' first|(refine zap rfl ?_;refine zaq (cs := [_, _, _, _]) rfl (fun nb => ?_))|refine zp ?_|refine zyn ?_
 refine zeb [1] rfl ?_
 repeat' first|refine zyq ?_|(refine zap rfl ?_;refine zdk [0] hG (teBetween w0 p T hT x y 5 _ Te.sumO (fun wb w a => teSumO w0 p wb T w a)) rfl rfl rfl zdj (fun a s hG => ?_))|refine zp ?_|refine zyl 0 rfl ?_|refine zch ?_
 rw [hG.done]
 exact zej rfl ⟨rfl, rfl⟩
theorem teCount (p : Nat) (T : Te) (hT : T.Ok) (x y : Int) : FnG w0 [] 69 [teV T, spP p, .int .i64 x, .int .i64 y] p (T.between x y 4 Te.countO) (.int .i64) := by
 intro s hS
 have hG := (At.start hS).to (Pg.bind_pure _).symm
 generalize Pg.run _ s = R at hG ⊢
 refine zep en69 fn69 rfl rfl rfl ?_
 refine zyr ?_
 repeat' first|(refine zap rfl ?_;refine zaq (cs := [_, _, _, _]) rfl (fun nb => ?_))|refine zp ?_|refine zyn ?_
 refine zeb [1] rfl ?_
 repeat' first|refine zyq ?_|(refine zap rfl ?_;refine zdk [0] hG (teBetween w0 p T hT x y 4 _ Te.countO (fun wb w a => teCountO w0 p wb T w a)) rfl rfl rfl zdj (fun a s hG => ?_))|refine zp ?_|refine zyl 0 rfl ?_|refine zch ?_
 rw [hG.done]
 exact zej rfl ⟨rfl, rfl⟩
theorem teNth (p : Nat) (T : Te) (hT : T.Ok) (n : Int) : FnG w0 [] 71 [teV T, spP p, .int .i64 n] p (T.nth n) (fun r => .tuple #[.int .i64 r.1, .bool r.2]) := by
 intro s hS; have hG := At.start hS; generalize Pg.run _ s = R at hG ⊢
 unfold Te.nth at hG
 obtain ⟨⟨hp1, hp2, hp3, hp4, hp5, hp6, hp7⟩, _, _⟩ := id hT
 refine zep en71 fn71 rfl rfl rfl ?_
 refine zyr ?_
 repeat' first|(refine zap rfl ?_;refine zaq (cs := [_, _, _, _]) rfl (fun nb => ?_))|refine zp ?_|refine zyn ?_
 revert nb; intro gb
 refine zeb [1] rfl ?_
 refine zyr ?_
 repeat' first|(refine zap rfl ?_;refine zai [] (teStart w0 p T) rfl rfl rfl zdj (fun | _, _, ⟨wb, rfl, rfl⟩ => ?_))|refine zp ?_|refine zyl 0 rfl ?_|refine zyn ?_
 refine zyr ?_
 repeat' first|(refine zap rfl ?_;refine zbq rfl rfl ?_)|refine zp ?_|refine zyn ?_
 refine zed rfl (fun hx => ?_) (fun hx => ?_)
 · rw [if_pos hx] at hG
   rw [hG.done]
   repeat' first|refine zck ?_|refine zyq ?_|refine zp ?_|refine zch ?_
   refine zec [1] rfl ?_
   exact zei rfl ⟨rfl, rfl⟩
 rw [if_neg hx] at hG
 repeat (first|refine zck ?_|refine zcl ?_|refine zcm ?_|refine zcn ?_|refine zco ?_)
 refine zyr ?_
 repeat' refine zp ?_
 all_goals refine zyn ?_
 refine zyr ?_
 repeat' first|(refine zap rfl ?_;refine zdk [1] hG (getG w0 p _) rfl rfl rfl zdj (fun a s hG => ?_))|refine zp ?_|refine zyl 0 rfl ?_|refine zyf rfl ?_|refine zyn ?_
 refine run_loop (S := Int × Nat × Wk × Int × Sp) (fun v => [(1, spP p), (2, .int .i64 v.2.2.2.1), (3, ptrT gb), (8, ptrT wb), (9, .int .i64 (T.pool.nodes - v.2.1)), (10, .int .i64 v.1)])
   (fun v Γ => Γ = [SpaceA p v.2.2.2.2, wkA wb p T v.2.2.1] ∧ At R (T.nthK v.2.1 v.1 v.2.2.1 v.2.2.2.1) v.2.2.2.2 ∧ v.2.1 ≤ T.pool.nodes.toNat) (fun v => v.2.1) (a, T.pool.nodes.toNat, T.start, n, s) ⟨rfl, rfl, rfl, rfl, by show Value.int .i64 0 = _; congr 1; dsimp only; omega, rfl, trivial⟩ ⟨rfl, hG, Nat.le_refl _⟩ ?_
 rintro ⟨a, j, w, n, s⟩ Γ junk ⟨rfl, hG, hle⟩
 dsimp only at hG hle ⊢
 have ki := teIs w0 p wb T hT w a
 cases hI : (T.is a w).1 with
 | false =>
   have hG : At R (Pg.ret (0, false)) s := by
     cases j with
     | zero => exact hG
     | succ j => rw [Te.nthK, hI, if_neg (by decide)] at hG; exact hG
   rw [hI] at ki
   rw [hG.done]
   refine zyr ?_
   repeat' first|(refine zap rfl ?_;first|refine zak rfl ?_|refine zah [1] ki rfl rfl rfl zdj rfl ?_|refine zbv rfl ?_)|refine zp ?_|refine zyn ?_
   refine zcj rfl ?_
   refine zer rfl rfl ?_
   repeat' first|refine zck ?_|refine zyq ?_|refine zp ?_|refine zch ?_
   refine zec [1] rfl ?_
   exact zei rfl ⟨rfl, rfl⟩
 | true =>
 rw [hI] at ki
 cases j with
 | zero =>
   rw [hG.done]
   refine zyr ?_
   repeat' first|(refine zap rfl ?_;first|refine zaj rfl ?_|refine zah [1] ki rfl rfl rfl zdj rfl ?_|refine zbh rfl rfl (by omega) ?_|refine zbu rfl ?_)|refine zp ?_|refine zyl 0 rfl ?_|refine zyf rfl ?_|refine zyn ?_
   refine zcj rfl ?_
   refine zer rfl rfl ?_
   repeat' first|refine zck ?_|refine zyq ?_|refine zp ?_|refine zch ?_
   refine zec [1] rfl ?_
   exact zei rfl ⟨rfl, rfl⟩
 | succ j =>
   have h64 := wrap64_id (m := T.pool.nodes - ((j + 1 : Nat) : Int) + 1) (by omega) (by omega)
   rw [Te.nthK, hI, if_pos rfl] at hG
   refine zyr ?_
   repeat' first|(refine zap rfl ?_;first|refine zaj rfl ?_|refine zah [1] ki rfl rfl rfl zdj rfl ?_|refine zbg rfl rfl (by omega) ?_|refine zbu rfl ?_)|refine zp ?_|refine zyl 0 rfl ?_|refine zyf rfl ?_|refine zyn ?_
   refine zci rfl ?_
   repeat (first|refine zck ?_|refine zcl ?_|refine zcm ?_|refine zcn ?_|refine zco ?_)
   refine zyr ?_
   repeat' first|(refine zap rfl ?_;refine zdn [1, 0] hG (teGet w0 p wb T _ a 2) rfl rfl rfl (fun l s hG => ?_))|refine zp ?_|refine zyn ?_
   refine zyr ?_
   repeat' first|(refine zap rfl ?_;refine zai [] (teStart w0 p T) rfl rfl rfl zdj (fun | _, _, ⟨wi, rfl, rfl⟩ => ?_))|refine zp ?_|refine zyl 0 rfl ?_|refine zyn ?_
   refine zyr ?_
   repeat' first|(refine zap rfl ?_;refine zdq [1, 0] hG (teOf w0 p wi T hT _ l 4) rfl rfl rfl (fun x w3 s hG => ?_))|refine zp ?_|refine zyn ?_
   by_cases h1 : n = x
   · rw [if_pos h1] at hG
     repeat' first|refine zck ?_|refine zyq ?_|(refine zap rfl ?_;first|refine zdn [0, 1] hG (teGet w0 p wb T _ a 0) rfl rfl rfl (fun key s hG => ?_)|refine zbc rfl rfl (by omega) ?_)|refine zp ?_|refine zch ?_|refine zci rfl ?_
     rw [hG.done]
     exact cut_ret (zek (zel [0] rfl (zen rfl rfl rfl ⟨rfl, rfl, rfl⟩)))
   rw [if_neg h1] at hG
   by_cases h2 : n < x
   · rw [if_pos h2] at hG
     repeat' first|refine zck ?_|refine zcn ?_|refine zyq ?_|(refine zap rfl ?_;first|refine zbd rfl rfl (by omega) ?_|refine zbg rfl rfl (by omega) ?_|refine zau rfl rfl (by omega) ?_)|refine zp ?_|refine zch ?_|refine zci rfl ?_|refine zcj rfl ?_
     refine zec [0, 1] rfl ?_
     exact zeq ⟨rfl, (l, j, (T.is a w).2, n, s), ⟨rfl, rfl, rfl, rfl, by show Value.int .i64 _ = _; congr 1; dsimp only; omega, rfl, trivial⟩, ⟨rfl, hG, by dsimp only; omega⟩, Nat.lt_succ_self j⟩
   · rw [if_neg h2] at hG
     repeat' first|refine zck ?_|refine zcn ?_|refine zyq ?_|(refine zap rfl ?_;first|refine zdu rfl rfl ?_|refine zev rfl rfl ?_|refine zdn [0, 1] hG (teGet w0 p wb T _ a 3) rfl rfl rfl (fun c s hG => ?_)|refine zbd rfl rfl (by omega) ?_|refine zbh rfl rfl (by omega) ?_)|refine zp ?_|refine zch ?_|refine zcj rfl ?_
     refine zec [0, 0] rfl ?_
     exact zeq ⟨rfl, (c, j, (T.is a w).2, w64 (n - w64 (x + 1)), s), ⟨rfl, rfl, rfl, rfl, by show Value.int .i64 _ = _; congr 1; dsimp only; omega, rfl, trivial⟩, ⟨rfl, hG, by dsimp only; omega⟩, Nat.lt_succ_self j⟩
end Go.Proofs.YtgdhcgnmffgkiaaGreatDoor
