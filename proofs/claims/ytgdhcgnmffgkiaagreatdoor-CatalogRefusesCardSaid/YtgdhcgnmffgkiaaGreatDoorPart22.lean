import Derived.Test.YtgdhcgnmffgkiaaGreatDoorPart21
import Derived.Test.YtgdhcgnmffgkiaaGreatDoorKitA
/- Own work: lemmas of this claim. -/
namespace Go.Proofs.YtgdhcgnmffgkiaaGreatDoor
variable (w0 : World)
open Go.Vc Sim
set_option maxHeartbeats 4000000
theorem aget_spec (hw : PowOk w0) (p : Nat) (A : Ar) (hA : A.Ok) (s : Sp) (i : Int) (hsm : Sm s 0) : FnE PP w0 [] 81 [arrV A, spP p, .int .i64 i] [SpaceA p s]
   (.tuple #[.int .i64 (A.get s i).1, .int .i64 (A.get s i).2.1]) [SpaceA p (A.get s i).2.2] := by
 refine zep en81 fn81 rfl rfl rfl ?_
 refine zyr ?_
 repeat' (refine zap rfl ?_;first|refine zdw rfl rfl (by omega) ?_|refine zau rfl rfl (by omega) ?_|refine zdu rfl rfl ?_|refine zan rfl ?_|refine zaq (cs := [_, _, _, _]) rfl (fun nb => ?_))
 all_goals refine zyn ?_
 refine zeb [1] rfl ?_
 generalize hg : A.place s i = g
 have hsm2 : Sm g.2.2 0 := hg ▸ sm_place hsm
 have hG := place_spec w0 hw p A hA s i hsm
 rw [hg] at hG
 repeat' (first|refine zck ?_|refine zcp (by kernel_rfl) ?_|(refine zap rfl ?_;first|refine zdw rfl rfl (by omega) ?_|refine zau rfl rfl (by omega) ?_|refine zdu rfl rfl ?_|refine zan rfl ?_|refine zan rfl ?_|refine zaa 0 rfl rfl rfl ?_|refine zah [0] hG rfl rfl rfl zdj rfl ?_|refine zan rfl ?_|refine zbp rfl rfl ?_)|refine zch ?_)
 refine zed rfl (fun hE => ?_) (fun hE => ?_)
 · have e : A.get s i = (0, g.2.1, g.2.2) := by simp [Ar.get, hg, hE]
   repeat' (first|refine zck ?_|refine zcp (by kernel_rfl) ?_|(refine zap rfl ?_;first|refine zdw rfl rfl (by omega) ?_|refine zau rfl rfl (by omega) ?_|refine zdu rfl rfl ?_|refine zan rfl ?_|refine zan rfl ?_)|refine zch ?_)
   rw [e]
   exact zei rfl ⟨rfl, rfl⟩
 · have hE : g.2.1 = 0 := by omega
   have e : A.get s i = ((g.2.2.get g.1).1, 0, (g.2.2.get g.1).2) := by simp [Ar.get, hg, hE]
   repeat' (first|refine zck ?_|refine zcp (by kernel_rfl) ?_|refine zcm ?_|(refine zap rfl ?_;first|refine zdw rfl rfl (by omega) ?_|refine zau rfl rfl (by omega) ?_|refine zdu rfl rfl ?_|refine zan rfl ?_|refine zan rfl ?_|refine zah [0] (getS w0 p _ _ hsm2) rfl rfl rfl zdj rfl ?_)|refine zch ?_)
   rw [e]
   exact zei rfl ⟨rfl, rfl⟩
theorem aset_spec (hw : PowOk w0) (p : Nat) (A : Ar) (hA : A.Ok) (s : Sp) (i v : Int) (hsm : Sm s 1) : FnE PP w0 [] 82 [arrV A, spP p, .int .i64 i, .int .i64 v] [SpaceA p s]
   (.tuple #[.int .i64 (A.set s i v).1, .int .i64 (A.set s i v).2.1]) [SpaceA p (A.set s i v).2.2] := by
 refine zep en82 fn82 rfl rfl rfl ?_
 refine zyr ?_
 repeat' (refine zap rfl ?_;first|refine zdw rfl rfl (by omega) ?_|refine zau rfl rfl (by omega) ?_|refine zdu rfl rfl ?_|refine zan rfl ?_|refine zaq (cs := [_, _, _, _]) rfl (fun nb => ?_))
 all_goals refine zyn ?_
 refine zeb [1] rfl ?_
 generalize hg : A.place s i = g
 have hsm2 : Sm g.2.2 1 := hg ▸ sm_place hsm
 have hG := place_spec w0 hw p A hA s i (hsm.mono (by decide))
 rw [hg] at hG
 repeat' (first|refine zck ?_|refine zcp (by kernel_rfl) ?_|(refine zap rfl ?_;first|refine zdw rfl rfl (by omega) ?_|refine zau rfl rfl (by omega) ?_|refine zdu rfl rfl ?_|refine zan rfl ?_|refine zan rfl ?_|refine zaa 0 rfl rfl rfl ?_|refine zah [0] hG rfl rfl rfl zdj rfl ?_|refine zan rfl ?_|refine zbp rfl rfl ?_)|refine zch ?_)
 refine zed rfl (fun hE => ?_) (fun hE => ?_)
 · have e : A.set s i v = (0, g.2.1, g.2.2) := by simp [Ar.set, hg, hE]
   repeat' (first|refine zck ?_|refine zcp (by kernel_rfl) ?_|(refine zap rfl ?_;first|refine zdw rfl rfl (by omega) ?_|refine zau rfl rfl (by omega) ?_|refine zdu rfl rfl ?_|refine zan rfl ?_|refine zan rfl ?_)|refine zch ?_)
   rw [e]
   exact zei rfl ⟨rfl, rfl⟩
 · have hE : g.2.1 = 0 := by omega
   have e : A.set s i v = ((g.2.2.get g.1).1, 0, (g.2.2.get g.1).2.put g.1 v) := by simp [Ar.set, hg, hE]
   repeat' (first|refine zck ?_|refine zcp (by kernel_rfl) ?_|refine zcm ?_|(refine zap rfl ?_;first|refine zdw rfl rfl (by omega) ?_|refine zau rfl rfl (by omega) ?_|refine zdu rfl rfl ?_|refine zan rfl ?_|refine zan rfl ?_|refine zah [0] (getS w0 p _ _ (hsm2.mono (by decide))) rfl rfl rfl zdj rfl ?_|refine zah [0] (putS w0 p _ _ _ (sm_get (hsm2.mono (by decide)))) rfl rfl rfl zdj rfl ?_)|refine zch ?_)
   rw [e]
   exact zei rfl ⟨rfl, rfl⟩
theorem aswap_spec (hw : PowOk w0) (p : Nat) (A : Ar) (hA : A.Ok) (s : Sp) (i j : Int) (hsm : Sm s 2) : FnE PP w0 [] 83 [arrV A, spP p, .int .i64 i, .int .i64 j] [SpaceA p s]
   (.int .i64 (A.swap s i j).1) [SpaceA p (A.swap s i j).2] := by
 obtain ⟨_, h1, h2⟩ := id hA
 refine zep en83 fn83 rfl rfl rfl ?_
 refine zyr ?_
 repeat' (refine zap rfl ?_;first|refine zdw rfl rfl (by omega) ?_|refine zau rfl rfl (by omega) ?_|refine zdu rfl rfl ?_|refine zan rfl ?_|refine zaq (cs := [_, _, _, _]) rfl (fun nb => ?_))
 all_goals refine zyn ?_
 refine zeb [1] rfl ?_
 generalize hg : s.get (w64 (A.root + 1)) = g
 have hsm2 : Sm g.2 2 := hg ▸ sm_get hsm
 have hG := getS w0 p s (w64 (A.root + 1)) (hsm.mono (by decide))
 rw [hg] at hG
 refine zyr ?_
 repeat' (refine zap rfl ?_;first|refine zdw rfl rfl (by omega) ?_|refine zau rfl rfl (by omega) ?_|refine zdu rfl rfl ?_|refine zan rfl ?_|refine zan rfl ?_|refine zaa 0 rfl rfl rfl ?_|refine zah [0] hG rfl rfl rfl zdj rfl ?_|refine zao rfl ?_)
 all_goals refine zyn ?_
 refine run_slots [(1, spP p), (2, .int .i64 i), (3, .int .i64 j), (4, .pointer (some ⟨nb, 0, none⟩)), (9, .int .i64 g.1)] ⟨rfl, rfl, rfl, rfl, rfl, trivial⟩ (fun junk => ?_)
 repeat' (first|refine zck ?_|refine zcp (by kernel_rfl) ?_|refine zcm ?_|(refine zap rfl ?_;first|refine zdw rfl rfl (by omega) ?_|refine zau rfl rfl (by omega) ?_|refine zdu rfl rfl ?_|refine zaj rfl ?_|refine zak rfl ?_|refine zam rfl rfl (fun _ => ?_) (fun _ => ?_)|refine zan rfl ?_|refine zan rfl ?_|refine zaa 0 rfl rfl rfl ?_|refine zbq rfl rfl ?_|refine zbt rfl rfl ?_|refine zbu rfl ?_|refine zbv rfl ?_)|refine zch ?_|refine zci rfl ?_|refine zed rfl (fun _ => ?_) (fun _ => ?_))
 all_goals first|(exact zej rfl (by rw [show A.swap s i j = (3, g.2) by { simp only [Ar.swap, hg]; rw [if_pos (by omega)] }]; exact ⟨rfl, rfl⟩)) | skip
 have hr : ¬ (i < 0 ∨ j < 0 ∨ g.1 ≤ i ∨ g.1 ≤ j) := by omega
 generalize hx : A.place g.2 i = x
 have hsm3 : Sm x.2.2 2 := hx ▸ sm_place hsm2
 have hX := place_spec w0 hw p A hA g.2 i (hsm2.mono (by decide))
 rw [hx] at hX
 repeat' (first|refine zck ?_|refine zcp (by kernel_rfl) ?_|(refine zap rfl ?_;first|refine zdw rfl rfl (by omega) ?_|refine zau rfl rfl (by omega) ?_|refine zdu rfl rfl ?_|refine zan rfl ?_|refine zan rfl ?_|refine zah [0] hX rfl rfl rfl zdj rfl ?_|refine zan rfl ?_|refine zbp rfl rfl ?_)|refine zch ?_)
 refine zed rfl (fun hE => ?_) (fun hE => ?_)
 · repeat' (first|refine zck ?_|refine zcp (by kernel_rfl) ?_|(refine zap rfl ?_;first|refine zdw rfl rfl (by omega) ?_|refine zau rfl rfl (by omega) ?_|refine zdu rfl rfl ?_|refine zan rfl ?_|refine zan rfl ?_)|refine zch ?_)
   refine zej rfl ?_
   have e : A.swap s i j = (x.2.1, x.2.2) := by simp only [Ar.swap, hg]; rw [if_neg hr, hx, if_neg hE]
   rw [e]; exact ⟨rfl, rfl⟩
 · have hE : x.2.1 = 0 := by omega
   generalize hy : A.place x.2.2 j = y
   have hsm4 : Sm y.2.2 2 := hy ▸ sm_place hsm3
   have hY := place_spec w0 hw p A hA x.2.2 j (hsm3.mono (by decide))
   rw [hy] at hY
   repeat (first|refine zck ?_|refine zcl ?_|refine zcm ?_|refine zcn ?_|refine zco ?_)
   refine run_slots [(1, spP p), (3, .int .i64 j), (4, .pointer (some ⟨nb, 0, none⟩)), (10, .int .i64 x.1)] ⟨rfl, rfl, rfl, rfl, trivial⟩ (fun junk => ?_)
   repeat' (first|refine zck ?_|refine zcp (by kernel_rfl) ?_|(refine zap rfl ?_;first|refine zdw rfl rfl (by omega) ?_|refine zau rfl rfl (by omega) ?_|refine zdu rfl rfl ?_|refine zan rfl ?_|refine zan rfl ?_|refine zaa 0 rfl rfl rfl ?_|refine zah [0] hY rfl rfl rfl zdj rfl ?_|refine zan rfl ?_|refine zbp rfl rfl ?_)|refine zch ?_)
   refine zed rfl (fun hE2 => ?_) (fun hE2 => ?_)
   · repeat' (first|refine zck ?_|refine zcp (by kernel_rfl) ?_|(refine zap rfl ?_;first|refine zdw rfl rfl (by omega) ?_|refine zau rfl rfl (by omega) ?_|refine zdu rfl rfl ?_|refine zan rfl ?_|refine zan rfl ?_)|refine zch ?_)
     refine zej rfl ?_
     have e : A.swap s i j = (y.2.1, y.2.2) := by simp only [Ar.swap, hg]; rw [if_neg hr, hx, if_pos hE, hy, if_neg hE2]
     rw [e]; exact ⟨rfl, rfl⟩
   · have hE2 : y.2.1 = 0 := by omega
     repeat (first|refine zck ?_|refine zcl ?_|refine zcm ?_|refine zcn ?_|refine zco ?_)
     refine run_slots [(1, spP p), (12, .int .i64 y.1), (10, .int .i64 x.1)] ⟨rfl, rfl, rfl, trivial⟩ (fun junk => ?_)
     have e : A.swap s i j = (0, ((((y.2.2.get x.1).2.get y.1).2.put x.1 ((y.2.2.get x.1).2.get y.1).1).put y.1 (y.2.2.get x.1).1)) := by simp only [Ar.swap, hg]; rw [if_neg hr, hx, if_pos hE, hy, if_pos hE2]
     rw [e]
     have hsm := hsm4
     repeat' (first|refine zck ?_|refine zcp (by kernel_rfl) ?_|(refine zap rfl ?_;first|refine zdw rfl rfl (by omega) ?_|refine zau rfl rfl (by omega) ?_|refine zdu rfl rfl ?_|refine zan rfl ?_|refine zan rfl ?_|refine zah [0] (getS w0 p _ _ (by first|exact hsm.mono (by decide) | (repeat (first|refine sm_get ?_|refine sm_put ?_|refine sm_node ?_|refine sm_take ?_|refine sm_many ?_|refine sm_way ?_|refine sm_poolTake ?_|refine sm_give ?_|refine sm_place ?_)); exact hsm.mono (by decide))) rfl rfl rfl zdj rfl ?_|refine zah [0] (putS w0 p _ _ _ (by first|exact hsm.mono (by decide) | (repeat (first|refine sm_get ?_|refine sm_put ?_|refine sm_node ?_|refine sm_take ?_|refine sm_many ?_|refine sm_way ?_|refine sm_poolTake ?_|refine sm_give ?_|refine sm_place ?_)); exact hsm.mono (by decide))) rfl rfl rfl zdj rfl ?_)|refine zch ?_)
     exact zej rfl ⟨rfl, rfl⟩
end Go.Proofs.YtgdhcgnmffgkiaaGreatDoor
namespace Sim
open Go Go.Vc
end Sim
namespace Go.Proofs.YtgdhcgnmffgkiaaGreatDoor
open Go.Vc Sim
set_option maxHeartbeats 4000000
end Go.Proofs.YtgdhcgnmffgkiaaGreatDoor
namespace Sim
open Go Go.Vc
def Ar.grow (A : Ar) (n : Int) (d : Nat) (s : Sp) : Int × Sp :=
 let c := if 0 < d then A.node (s.get A.root).2 A.root else (0, true, (s.get A.root).2)
 if c.2.1 then
   let t := A.take c.2.2
   if t.2.1 = 0 then (0, ((if 0 < d then t.2.2.put t.1 (s.get A.root).1 else t.2.2).put A.root t.1).put (w64 (A.root + 2)) (dep (n + 1)))
   else (t.2.1, t.2.2)
 else (24, c.2.2)
def Ar.add (A : Ar) (n : Int) (d : Nat) (cell : Int) (s : Sp) : Int × Sp :=
 if n % pw (d - 1) = 0 then
   let t := A.take s
   if t.2.1 = 0 then (0, t.2.2.put cell t.1) else (t.2.1, t.2.2)
 else (0, s)
def Ar.down (A : Ar) (n : Int) : Nat → Int → Sp → Int × Int × Sp
 | 0, at_, s => (0, at_, s)
 | d + 1, at_, s =>
   if d = 0 then (0, at_, s) else
   let r := A.add n (d + 1) (at_ + digA n (d + 1)) s
   if r.1 = 0 then
     let q := A.node r.2 (at_ + digA n (d + 1))
     if q.2.1 then A.down n d q.1 q.2.2 else (24, 0, q.2.2)
   else (r.1, 0, r.2)
def Ar.rest (A : Ar) (n v : Int) (d : Nat) (s : Sp) : Int × Int × Sp :=
 let c := A.node s A.root
 if c.2.1 then
   let r := A.down n d c.1 c.2.2
   if r.1 = 0 then (n, 0, ((r.2.2.put (r.2.1 + digA n 1) v).put (w64 (A.root + 1)) (n + 1))) else (0, r.1, r.2.2)
 else (0, 24, c.2.2)
def Ar.pushIn (A : Ar) (n v : Int) (d : Nat) (s : Sp) : Int × Int × Sp :=
 if d < dep (n + 1) then
   if (A.grow n d s).1 = 0 then A.rest n v (dep (n + 1)) (A.grow n d s).2 else (0, (A.grow n d s).1, (A.grow n d s).2)
 else A.rest n v d s
def Ar.undo (m : Int) (r : Int × Int × Sp) : Int × Int × Sp := (r.1, r.2.1, if r.2.1 ≠ 0 then r.2.2.back m else r.2.2)
def Ar.push (A : Ar) (s : Sp) (v : Int) : Int × Int × Sp :=
 let m := A.many s
 if m.2.2.1 then if m.1 = 4096 then (0, 9, m.2.2.2) else Ar.undo m.2.2.2.puts.length (A.pushIn m.1 v m.2.1.toNat m.2.2.2) else (0, 24, m.2.2.2)
end Sim
namespace Go.Proofs.YtgdhcgnmffgkiaaGreatDoor
variable (w0 : World)
open Go.Vc Sim
set_option maxHeartbeats 4000000
abbrev eV (eb : Nat) (e : Int) : Asn := pt eb (.cells (List.toArray [.int .i64 e]) 39 (0, 0))
abbrev ptrA (b : Nat) : Value := .pointer (some ⟨b, 0, none⟩)
theorem back_specD (p : Nat) (s : Sp) (m : Int) (eb : Nat) (e : Int) : FnD PP w0 [] 161 [spP p, .int .i64 m, ptrA eb] [SpaceA p s, eV eb e]
   fun v Γ' => v = .tuple #[] ∧ Γ' = [SpaceA p (if e ≠ 0 then s.back m else s), eV eb e] := by
 refine fnD_of_run en161 fn161 rfl rfl rfl ?_
 repeat' (first|refine zck ?_|refine zcp (by kernel_rfl) ?_|(refine zap rfl ?_;first|refine zdw rfl rfl (by omega) ?_|refine zau rfl rfl (by omega) ?_|refine zdu rfl rfl ?_|refine zan rfl ?_|refine zab 1 rfl rfl rfl ?_|refine zbp rfl rfl ?_|refine zan rfl ?_)|refine zch ?_)
 refine zed rfl (fun hE => ?_) (fun hE => ?_)
 · repeat' (first|refine zcp (by kernel_rfl) ?_|(refine zap rfl ?_;first|refine zdw rfl rfl (by omega) ?_|refine zau rfl rfl (by omega) ?_|refine zdu rfl rfl ?_|refine zan rfl ?_|refine zah [0] (back_spec w0 p s m) rfl rfl rfl zdj rfl ?_)|refine zch ?_)
   refine run_nil ⟨rfl, ends_none rfl ?_⟩
   rw [if_pos hE]; exact ⟨rfl, rfl⟩
 · repeat' (first|refine zcm ?_|(refine zap rfl ?_;first|refine zdw rfl rfl (by omega) ?_|refine zau rfl rfl (by omega) ?_|refine zdu rfl rfl ?_|refine zaj rfl ?_|refine zak rfl ?_|refine zal rfl ?_|refine zam rfl rfl (fun _ => ?_) (fun _ => ?_))|refine zch ?_)
   refine run_nil ⟨rfl, ends_none rfl ?_⟩
   rw [if_neg hE]; exact ⟨rfl, rfl⟩
def pushD (p eb : Nat) (m : Int) : Deferred := { target := .fn (.func 161) #[], args := List.toArray [spP p, .int .i64 m, ptrA eb] }
def pushRV (p : Nat) (r : Int × Int × Sp) (v' : Value) (Γ'' : List Asn) : Prop := v' = .tuple #[.int .i64 r.1, .int .i64 r.2.1] ∧ Γ'' = [SpaceA p r.2.2]
theorem push_fin (p eb : Nat) (mk : Int) (r : Int × Int × Sp) (i e : Int) (s' : Sp) (ρ : Env) (h6 : ρ 6 = .int .i64 i) (h7 : ρ 7 = ptrA eb) (hr : r = (i, e, s')) :
   LeavesS PP w0 [] Tryz.f79 ρ [pushD p eb mk] [SpaceA p s', eV eb e] (pushRV p (Ar.undo mk r)) := by
 subst hr
 refine leaves_defer1 [0, 0] (back_specD w0 p s' mk eb e) rfl rfl zdj ?_
 refine zek (zel [0] rfl (zen rfl h6 (zeo 1 h7 rfl rfl) ?_))
 exact ⟨rfl, rfl, rfl⟩
theorem push_spec (hw : PowOk w0) (p : Nat) (A : Ar) (hA : A.Ok) (s : Sp) (v : Int) (hsm : Sm s 24) :
   Vc.Fn PP w0 [] 79 [arrV A, spP p, .int .i64 v] [SpaceA p s] (pushRV p (A.push s v)) := by
 obtain ⟨_, h1, h2⟩ := id hA
 obtain ⟨T, fr, hw2⟩ := id hw
 generalize hm : A.many s = m
 have hsm2 : Sm m.2.2.2 24 := hm ▸ sm_many hsm
 have hM := many_spec w0 hw p A hA s (hsm.mono (by decide))
 rw [hm] at hM
 have hmo := many_ok (A := A) (s := s)
 rw [hm] at hmo
 refine zep en79 fn79 rfl rfl rfl ?_
 refine zyr ?_
 repeat' (refine zap rfl ?_;first|refine zdw rfl rfl (by omega) ?_|refine zau rfl rfl (by omega) ?_|refine zdu rfl rfl ?_|refine zan rfl ?_|refine zaq (cs := [_, _, _, _]) rfl (fun nb => ?_)|refine zar (fun nb => ?_))
 all_goals refine zyn ?_
 refine zeb [1] rfl ?_
 rename_i bx
 refine zyr ?_
 repeat' (refine zap rfl ?_;first|refine zdw rfl rfl (by omega) ?_|refine zau rfl rfl (by omega) ?_|refine zdu rfl rfl ?_|refine zan rfl ?_|refine zan rfl ?_|refine zaa 0 rfl rfl rfl ?_|refine zah [0] hM rfl rfl rfl zdj rfl ?_|refine zan rfl ?_)
 all_goals refine zyn ?_
 refine zyr ?_
 repeat' (refine zap rfl ?_;first|refine zdw rfl rfl (by omega) ?_|refine zau rfl rfl (by omega) ?_|refine zdu rfl rfl ?_|refine zan rfl ?_|refine zan rfl ?_|refine zbx rfl ?_)
 all_goals refine zyn ?_
 refine run_slots [(1, spP p), (2, .int .i64 v), (3, ptrA bx), (7, ptrA nb), (8, .int .i64 m.1), (9, .int .i64 m.2.1), (10, .bool m.2.2.1), (28, .bool (!m.2.2.1))] ⟨rfl, rfl, rfl, rfl, rfl, rfl, rfl, rfl, trivial⟩ (fun junk => ?_)
 refine zee rfl (fun hE => ?_) (fun hE => ?_)
 · have hE : m.2.2.1 = false := by simpa using hE
   have e : A.push s v = (0, 24, m.2.2.2) := by simp [Ar.push, hm, hE]
   repeat' (first|refine zck ?_|refine zcp (by kernel_rfl) ?_|(refine zap rfl ?_;first|refine zdw rfl rfl (by omega) ?_|refine zau rfl rfl (by omega) ?_|refine zdu rfl rfl ?_|refine zan rfl ?_|refine zae 1 rfl rfl rfl rfl rfl rfl rfl ?_)|refine zch ?_)
   rw [e]
   exact zeg (zek (zel [0] rfl (zen rfl rfl (zeo 1 rfl rfl rfl) ⟨rfl, rfl, rfl⟩)))
 have hE : m.2.2.1 = true := by simpa using hE
 obtain ⟨_, hn0, hn1, hn2⟩ := hmo hE
 refine zyr ?_
 repeat' (refine zap rfl ?_;first|refine zac rfl hw2 (powL_rd 4 (by decide) _ rfl) ?_|refine zdw rfl rfl (by omega) ?_|refine zau rfl rfl (by omega) ?_|refine zdu rfl rfl ?_|refine zan rfl ?_|refine zan rfl ?_|refine zbo rfl rfl ?_|refine zat rfl rfl (by omega) ?_)
 all_goals refine zyn ?_
 refine zed rfl (fun hZ => ?_) (fun hZ => ?_)
 · have hZ : m.1 = 4096 := hZ
   have e : A.push s v = (0, 9, m.2.2.2) := by simp only [Ar.push, hm]; rw [if_pos hE, if_pos hZ]
   repeat' (first|refine zck ?_|refine zcp (by kernel_rfl) ?_|(refine zap rfl ?_;first|refine zdw rfl rfl (by omega) ?_|refine zau rfl rfl (by omega) ?_|refine zdu rfl rfl ?_|refine zan rfl ?_|refine zae 1 rfl rfl rfl rfl rfl rfl rfl ?_)|refine zch ?_)
   rw [e]
   exact zeg (zek (zel [0] rfl (zen rfl rfl (zeo 1 rfl rfl rfl) ⟨rfl, rfl, rfl⟩)))
 have hZ : m.1 ≠ 4096 := hZ
 have e : A.push s v = Ar.undo m.2.2.2.puts.length (A.pushIn m.1 v m.2.1.toNat m.2.2.2) := by simp only [Ar.push, hm]; rw [if_pos hE, if_neg hZ]
 rw [e]
 have hd4 := dep_le m.1
 have hd5 := dep_le (m.1 + 1)
 have hd6 : 0 < dep (m.1 + 1) := by unfold dep; (repeat' split) <;> omega
 have hd7 : dep m.1 ≤ dep (m.1 + 1) := by unfold dep; (repeat' split) <;> omega
 have hdd : m.2.1.toNat = dep m.1 := by omega
 rw [hdd, hn2]
 generalize hmk : m.2.2.2.puts.length = mk
 generalize dep m.1 = d at *
 generalize hnn : m.1 = n at *
 generalize hss : m.2.2.2 = t at *
 have fin := push_fin w0 p nb mk (A.pushIn n v d t)
 have hMk := mark_spec w0 p t
 rw [hmk] at hMk
 refine zyr ?_
 repeat' (refine zap rfl ?_;first|refine zcd rfl rfl ?_|refine zdw rfl rfl (by omega) ?_|refine zau rfl rfl (by omega) ?_|refine zdu rfl rfl ?_|refine zan rfl ?_|refine zah [0] hMk rfl rfl rfl zdj rfl ?_)
 all_goals refine zyn ?_
 refine zyr ?_
 repeat' (refine zap rfl ?_;first|refine zdw rfl rfl (by omega) ?_|refine zau rfl rfl (by omega) ?_|refine zdu rfl rfl ?_|refine zan rfl ?_|refine zan rfl ?_|refine zah [] (depth_spec w0 hw _) rfl rfl rfl zdj rfl ?_)
 all_goals refine zyn ?_
 refine zyr ?_
 repeat' (refine zap rfl ?_;first|refine zdw rfl rfl (by omega) ?_|refine zau rfl rfl (by omega) ?_|refine zdu rfl rfl ?_|refine zan rfl ?_|refine zbs rfl rfl ?_)
 all_goals refine zyn ?_
 refine run_slots [(1, spP p), (2, .int .i64 v), (3, ptrA bx), (7, ptrA nb), (8, .int .i64 n), (9, .int .i64 d), (11, .int .i64 (dep (n + 1))), (44, .bool (decide ((d : Int) < dep (n + 1))))] ⟨rfl, rfl, rfl, rfl, rfl, rfl, rfl, rfl, trivial⟩ (fun junk => ?_)
 show Run PP w0 _ _ _ _ _ [pushD p nb mk] _
 refine run_join (S := Nat × Sp) (fun st => [(1, spP p), (2, .int .i64 v), (3, ptrA bx), (7, ptrA nb), (8, .int .i64 n), (9, .int .i64 (st.1 : Int))])
   (fun st Γ => Γ = [SpaceA p st.2, eV nb 0] ∧ st.1 ≤ 4 ∧ 1 ≤ st.1 ∧ Sm st.2 18 ∧ A.pushIn n v d t = A.rest n v st.1 st.2) ?_ ?_
 · by_cases hlt : d < dep (n + 1)
   rotate_left
   · refine zcj (bool_eq (decide_eq_false (by omega))) ?_
     repeat (first|refine zck ?_|refine zcl ?_|refine zcm ?_|refine zcn ?_|refine zco ?_)
     have hpi : A.pushIn n v d t = A.rest n v d t := by simp only [Ar.pushIn]; rw [if_neg hlt]
     refine zeq ⟨rfl, (d, t), ⟨rfl, rfl, rfl, rfl, rfl, rfl, trivial⟩, ⟨rfl, hd4, by dsimp only; omega, hsm2.mono (by decide), hpi⟩⟩
   refine zci (bool_eq (decide_eq_true (by omega))) ?_
   have hgOk : ∀ s', A.grow n d t = (0, s') → A.pushIn n v d t = A.rest n v (dep (n + 1)) s' := fun s' h => by
     simp only [Ar.pushIn]; rw [if_pos hlt, h]; rfl
   have hgNo : ∀ e s', A.grow n d t = (e, s') → e ≠ 0 → A.pushIn n v d t = (0, e, s') := fun e s' h he => by
     simp only [Ar.pushIn]; rw [if_pos hlt, h, if_neg he]
   have hgr : A.grow n d t = A.grow n d t := rfl
   conv at hgr => rhs; simp only [Ar.grow]
   have hG := getS w0 p t A.root (hsm2.mono (by decide))
   have hsm3 : Sm (t.get A.root).2 24 := sm_get hsm2
   generalize t.get A.root = g at hgr hG hsm3
   refine zyr ?_
   repeat' (refine zap rfl ?_;first|(refine zau rfl rfl (by omega) ?_; rw [Int.add_zero])|refine zdw rfl rfl (by omega) ?_|refine zau rfl rfl (by omega) ?_|refine zdu rfl rfl ?_|refine zan rfl ?_|refine zan rfl ?_|refine zaa 0 rfl rfl rfl ?_|refine zah [0] hG rfl rfl rfl zdj rfl ?_|refine zao rfl ?_)
   all_goals refine zyn ?_
   refine zyr ?_
   repeat' (refine zap rfl ?_;first|refine zdw rfl rfl (by omega) ?_|refine zau rfl rfl (by omega) ?_|refine zdu rfl rfl ?_|refine zan rfl ?_|refine zbs rfl rfl ?_)
   all_goals refine zyn ?_
   refine run_slots [(1, spP p), (2, .int .i64 v), (3, ptrA bx), (7, ptrA nb), (8, .int .i64 n), (9, .int .i64 d), (11, .int .i64 (dep (n + 1))), (12, .int .i64 g.1), (51, .bool (decide (0 < d)))] ⟨rfl, rfl, rfl, rfl, rfl, rfl, rfl, rfl, bool_eq (dec_eq (by omega)), trivial⟩ (fun junk => ?_)
   refine run_join (S := Int × Sp) (fun st => [(1, spP p), (2, .int .i64 v), (3, ptrA bx), (7, ptrA nb), (8, .int .i64 n), (9, .int .i64 d), (11, .int .i64 (dep (n + 1))), (12, .int .i64 g.1)])
     (fun st Γ => Γ = [SpaceA p st.2, eV nb 0] ∧ Sm st.2 24 ∧ (if 0 < d then A.node g.2 A.root else (0, true, g.2)) = (st.1, true, st.2)) ?_ ?_
   · by_cases hd0 : 0 < d
     · refine zci (bool_eq (decide_eq_true hd0)) ?_
       rw [if_pos hd0] at hgr
       have hN := anode_spec w0 p A hA g.2 A.root (hsm3.mono (by decide))
       have hsm4 : Sm (A.node g.2 A.root).2.2 24 := sm_node hsm3
       rw [if_pos hd0]
       generalize A.node g.2 A.root = c at hgr hN hsm4
       refine zyr ?_
       repeat' (refine zap rfl ?_;first|(refine zau rfl rfl (by omega) ?_; rw [Int.add_zero])|refine zdw rfl rfl (by omega) ?_|refine zau rfl rfl (by omega) ?_|refine zdu rfl rfl ?_|refine zan rfl ?_|refine zan rfl ?_|refine zaa 0 rfl rfl rfl ?_|refine zah [0] hN rfl rfl rfl zdj rfl ?_|refine zao rfl ?_|refine zan rfl ?_)
       all_goals refine zyn ?_
       refine zyr ?_
       repeat' (refine zap rfl ?_;first|refine zdw rfl rfl (by omega) ?_|refine zau rfl rfl (by omega) ?_|refine zdu rfl rfl ?_|refine zan rfl ?_|refine zbx rfl ?_)
       all_goals refine zyn ?_
       refine zee rfl (fun hE => ?_) (fun hE => ?_)
       · have hE : c.2.1 = false := by simpa using hE
         rw [hE, if_neg (by decide)] at hgr
         repeat' (first|refine zck ?_|refine zcp (by kernel_rfl) ?_|(refine zap rfl ?_;first|refine zdw rfl rfl (by omega) ?_|refine zau rfl rfl (by omega) ?_|refine zdu rfl rfl ?_|refine zan rfl ?_|refine zae 1 rfl rfl rfl rfl rfl rfl rfl ?_)|refine zch ?_)
         exact qret rfl (fun _ _ h => h) (fin _ _ _ _ rfl rfl (hgNo _ _ hgr (by decide)))
       · have hE : c.2.1 = true := by simpa using hE
         repeat (first|refine zck ?_|refine zcl ?_|refine zcm ?_|refine zcn ?_|refine zco ?_)
         exact zeq ⟨rfl, (c.1, c.2.2), ⟨rfl, rfl, rfl, rfl, rfl, rfl, rfl, rfl, trivial⟩, ⟨rfl, hsm4, by rw [← hE]⟩⟩
     · refine zcj (bool_eq (decide_eq_false hd0)) ?_
       repeat (first|refine zck ?_|refine zcl ?_|refine zcm ?_|refine zcn ?_|refine zco ?_)
       exact zeq ⟨rfl, (0, g.2), ⟨rfl, rfl, rfl, rfl, rfl, rfl, rfl, rfl, trivial⟩, ⟨rfl, hsm3, by rw [if_neg hd0]⟩⟩
   rintro ⟨ca, s1⟩ Γ' junk ⟨rfl, hsm4, hc⟩
   dsimp only at hsm4 hc ⊢
   rw [hc] at hgr
   rw [if_pos rfl] at hgr
   have hT := atake_spec w0 p A hA s1 (hsm4.mono (by decide))
   have hsm5 : Sm (A.take s1).2.2 21 := sm_take hsm4
   dsimp only at hgr
   generalize A.take s1 = k1 at hgr hT hsm5
   refine zyr ?_
   repeat' (refine zap rfl ?_;first|refine zdw rfl rfl (by omega) ?_|refine zau rfl rfl (by omega) ?_|refine zdu rfl rfl ?_|refine zan rfl ?_|refine zan rfl ?_|refine zaa 0 rfl rfl rfl ?_|refine zah [0] hT rfl rfl rfl zdj rfl ?_|refine zan rfl ?_)
   all_goals refine zyn ?_
   refine zyr ?_
   repeat' (refine zap rfl ?_;first|refine zdw rfl rfl (by omega) ?_|refine zau rfl rfl (by omega) ?_|refine zdu rfl rfl ?_|refine zan rfl ?_|refine zbp rfl rfl ?_)
   all_goals refine zyn ?_
   refine zed rfl (fun hE => ?_) (fun hE => ?_)
   · rw [if_neg hE] at hgr
     repeat' (first|refine zck ?_|refine zcp (by kernel_rfl) ?_|(refine zap rfl ?_;first|refine zdw rfl rfl (by omega) ?_|refine zau rfl rfl (by omega) ?_|refine zdu rfl rfl ?_|refine zan rfl ?_|refine zan rfl ?_|refine zae 1 rfl rfl rfl rfl rfl rfl rfl ?_)|refine zch ?_)
     exact qret rfl (fun _ _ h => h) (fin _ _ _ _ rfl rfl (hgNo _ _ hgr hE))
   have hE : k1.2.1 = 0 := Decidable.of_not_not hE
   rw [if_pos hE] at hgr
   refine zyr ?_
   repeat' (refine zap rfl ?_;first|refine zdw rfl rfl (by omega) ?_|refine zau rfl rfl (by omega) ?_|refine zdu rfl rfl ?_|refine zan rfl ?_|refine zbs rfl rfl ?_)
   all_goals refine zyn ?_
   refine run_slots [(1, spP p), (2, .int .i64 v), (3, ptrA bx), (7, ptrA nb), (8, .int .i64 n), (9, .int .i64 d), (11, .int .i64 (dep (n + 1))), (12, .int .i64 g.1), (15, .int .i64 k1.1), (73, .bool (decide (0 < d)))] ⟨rfl, rfl, rfl, rfl, rfl, rfl, rfl, rfl, rfl, bool_eq (dec_eq (by omega)), trivial⟩ (fun junk => ?_)
   refine run_join (S := Sp) (fun _ => [(1, spP p), (2, .int .i64 v), (3, ptrA bx), (7, ptrA nb), (8, .int .i64 n), (11, .int .i64 (dep (n + 1))), (15, .int .i64 k1.1)])
     (fun st Γ => Γ = [SpaceA p st, eV nb 0] ∧ Sm st 20 ∧ (if 0 < d then k1.2.2.put k1.1 g.1 else k1.2.2) = st) ?_ ?_
   · by_cases hd0 : 0 < d
     · refine zci (bool_eq (decide_eq_true hd0)) ?_
       repeat' (first|refine zcp (by kernel_rfl) ?_|(refine zap rfl ?_;first|refine zdw rfl rfl (by omega) ?_|refine zau rfl rfl (by omega) ?_|refine zdu rfl rfl ?_|refine zan rfl ?_|refine zah [0] (putS w0 p _ _ _ (hsm5.mono (by decide))) rfl rfl rfl zdj rfl ?_)|refine zch ?_)
       exact zeq ⟨rfl, _, ⟨rfl, rfl, rfl, rfl, rfl, rfl, rfl, trivial⟩, ⟨rfl, sm_put hsm5, by rw [if_pos hd0]⟩⟩
     · refine zcj (bool_eq (decide_eq_false hd0)) ?_
       repeat (first|refine zck ?_|refine zcl ?_|refine zcm ?_|refine zcn ?_|refine zco ?_)
       exact zeq ⟨rfl, _, ⟨rfl, rfl, rfl, rfl, rfl, rfl, rfl, trivial⟩, ⟨rfl, hsm5.mono (by decide), by rw [if_neg hd0]⟩⟩
   rintro s2 Γ' junk ⟨rfl, hsm6, hc2⟩
   rw [hc2] at hgr
   have hsm := hsm6
   repeat' (first|refine zck ?_|refine zcp (by kernel_rfl) ?_|(refine zap rfl ?_;first|(refine zau rfl rfl (by omega) ?_; rw [Int.add_zero])|refine zdw rfl rfl (by omega) ?_|refine zau rfl rfl (by omega) ?_|refine zdu rfl rfl ?_|refine zan rfl ?_|refine zan rfl ?_|refine zaa 0 rfl rfl rfl ?_|refine zah [0] (putS w0 p _ _ _ (by first|exact hsm.mono (by decide) | (repeat (first|refine sm_get ?_|refine sm_put ?_|refine sm_node ?_|refine sm_take ?_|refine sm_many ?_|refine sm_way ?_|refine sm_poolTake ?_|refine sm_give ?_|refine sm_place ?_)); exact hsm.mono (by decide))) rfl rfl rfl zdj rfl ?_|refine zao rfl ?_)|refine zch ?_)
   exact zeq ⟨rfl, (dep (n + 1), (s2.put A.root k1.1).put (w64 (A.root + 2)) (dep (n + 1))), ⟨rfl, rfl, rfl, rfl, rfl, rfl, trivial⟩, ⟨rfl, hd5, hd6, sm_put (sm_put hsm6), hgOk _ hgr⟩⟩
 · rintro ⟨d1, s1⟩ Γ' junk ⟨rfl, hd1, hd2, hsm3, hpi⟩
   dsimp only at hd1 hd2 hsm3 hpi ⊢
   have hr : A.rest n v d1 s1 = A.rest n v d1 s1 := rfl
   conv at hr => rhs; simp only [Ar.rest]
   rw [← hpi] at hr
   have hN := anode_spec w0 p A hA s1 A.root (hsm3.mono (by decide))
   have hsm4 : Sm (A.node s1 A.root).2.2 18 := sm_node hsm3
   have hb := A.node_bd s1 A.root
   generalize A.node s1 A.root = c at hr hN hsm4 hb
   refine zyr ?_
   repeat' (refine zap rfl ?_;first|(refine zau rfl rfl (by omega) ?_; rw [Int.add_zero])|refine zdw rfl rfl (by omega) ?_|refine zau rfl rfl (by omega) ?_|refine zdu rfl rfl ?_|refine zan rfl ?_|refine zan rfl ?_|refine zaa 0 rfl rfl rfl ?_|refine zah [0] hN rfl rfl rfl zdj rfl ?_|refine zao rfl ?_|refine zan rfl ?_)
   all_goals refine zyn ?_
   refine zyr ?_
   repeat' (refine zap rfl ?_;first|refine zdw rfl rfl (by omega) ?_|refine zau rfl rfl (by omega) ?_|refine zdu rfl rfl ?_|refine zan rfl ?_|refine zbx rfl ?_)
   all_goals refine zyn ?_
   refine zee rfl (fun hE => ?_) (fun hE => ?_)
   · have hE : c.2.1 = false := by simpa using hE
     rw [hE, if_neg (by decide)] at hr
     repeat' (first|refine zck ?_|refine zcp (by kernel_rfl) ?_|(refine zap rfl ?_;first|refine zdw rfl rfl (by omega) ?_|refine zau rfl rfl (by omega) ?_|refine zdu rfl rfl ?_|refine zan rfl ?_|refine zae 1 rfl rfl rfl rfl rfl rfl rfl ?_)|refine zch ?_)
     exact qret rfl (fun _ _ h => h) (fin _ _ _ _ rfl rfl hr)
   have hE : c.2.1 = true := by simpa using hE
   rw [if_pos hE] at hr
   repeat (first|refine zck ?_|refine zcl ?_|refine zcm ?_|refine zcn ?_|refine zco ?_)
   refine run_loop (S := Nat × Int × Sp) (fun st => [(1, spP p), (2, .int .i64 v), (3, ptrA bx), (7, ptrA nb), (8, .int .i64 n), (9, .int .i64 ((st.1 + 1 : Nat) : Int)), (17, .int .i64 st.2.1)])
     (fun st Γ => Γ = [SpaceA p st.2.2, eV nb 0] ∧ st.1 ≤ 3 ∧ (0 ≤ st.2.1 ∧ st.2.1 ≤ 4096) ∧ Sm st.2.2 (2 + 4 * st.1) ∧ A.down n d1 c.1 c.2.2 = A.down n (st.1 + 1) st.2.1 st.2.2)
     (fun st => st.1) (d1 - 1, c.1, c.2.2) ⟨rfl, rfl, rfl, rfl, rfl, zes (by dsimp only; omega), rfl, trivial⟩
     ⟨rfl, by dsimp only; omega, hb, hsm4.mono (by dsimp only; omega), by dsimp only; rw [Nat.sub_add_cancel hd2]⟩ ?_
   rintro ⟨d2, at_, s2⟩ Γ' junk ⟨rfl, hdb, hab, hsm5, hdn⟩
   dsimp only at hdb hab hsm5 hdn ⊢
   rw [hdn] at hr
   cases d2 with
   | zero =>
     have hdn0 : A.down n (0 + 1) at_ s2 = (0, at_, s2) := rfl
     rw [hdn0] at hr
     dsimp only at hr
     rw [if_pos rfl] at hr
     have hsm := hsm5
     repeat' (first|refine zck ?_|refine zcp (by kernel_rfl) ?_|(refine zap rfl ?_;first|refine zdw rfl rfl (by omega) ?_|refine zau rfl rfl (by omega) ?_|refine zdu rfl rfl ?_|refine zan rfl ?_|refine zbs rfl rfl ?_)|refine zch ?_|refine zcj rfl ?_)
     refine zer rfl rfl ?_
     have hdg := dig_bd n 1
     repeat' (first|refine zck ?_|refine zcp (by kernel_rfl) ?_|(refine zap rfl ?_;first|refine zdw rfl rfl (by omega) ?_|refine zau rfl rfl (by omega) ?_|refine zdu rfl rfl ?_|refine zan rfl ?_|refine zan rfl ?_|refine zaa 0 rfl rfl rfl ?_|refine zah [0] (putS w0 p _ _ _ (by first|exact hsm.mono (by decide) | (repeat (first|refine sm_get ?_|refine sm_put ?_|refine sm_node ?_|refine sm_take ?_|refine sm_many ?_|refine sm_way ?_|refine sm_poolTake ?_|refine sm_give ?_|refine sm_place ?_)); exact hsm.mono (by decide))) rfl rfl rfl zdj rfl ?_|refine zah [] (digit_spec w0 hw n 1 (by omega) (by omega) _ rfl) rfl rfl rfl zdj rfl ?_|refine zao rfl ?_|refine zae 1 rfl rfl rfl rfl rfl rfl rfl ?_)|refine zch ?_)
     exact qret rfl (fun _ _ h => h) (fin _ _ _ _ rfl rfl hr)
   | succ d2 =>
     have hdg := dig_bd n (d2 + 1 + 1)
     have hp := pw_pos (d2 + 1)
     have hdn1 : A.down n (d2 + 1 + 1) at_ s2 = A.down n (d2 + 1 + 1) at_ s2 := rfl
     conv at hdn1 => rhs; unfold Ar.down
     rw [if_neg (by omega)] at hdn1
     rw [hdn1] at hr
     have hsm6 : Sm s2 (2 + 4 * d2 + 4) := hsm5.mono (by omega)
     refine zyr ?_
     repeat' (refine zap rfl ?_;first|refine zdw rfl rfl (by omega) ?_|refine zau rfl rfl (by omega) ?_|refine zdu rfl rfl ?_|refine zan rfl ?_|refine zbs rfl rfl ?_)
     all_goals refine zyn ?_
     refine zci (bool_eq (decide_eq_true (by omega))) ?_
     refine zyr ?_
     repeat' (refine zap rfl ?_;first|refine zdw rfl rfl (by omega) ?_|refine zau rfl rfl (by omega) ?_|refine zdu rfl rfl ?_|refine zan rfl ?_|refine zan rfl ?_|refine zah [] (digit_spec w0 hw n (d2 + 1 + 1) (by omega) (by omega) _ rfl) rfl rfl rfl zdj rfl ?_)
     all_goals refine zyn ?_
     refine zyr ?_
     repeat' (refine zap rfl ?_;first|refine zac rfl hw2 (powL_rd (d2 + 1) (by omega) _ (by omega)) ?_|refine zdw rfl rfl (by omega) ?_|refine zau rfl rfl (by omega) ?_|refine zdu rfl rfl ?_|refine zan rfl ?_|refine zav rfl rfl (by omega) ?_|refine zbo rfl rfl ?_|refine zay rfl rfl (by omega) ?_|refine zat rfl rfl (by omega) ?_)
     all_goals refine zyn ?_
     refine run_slots [(1, spP p), (2, .int .i64 v), (3, ptrA bx), (7, ptrA nb), (8, .int .i64 n), (9, .int .i64 ((d2 + 1 + 1 : Nat) : Int)), (18, .int .i64 (at_ + digA n (d2 + 1 + 1))), (117, .bool (decide (n % pw (d2 + 1) = 0)))] ⟨rfl, rfl, rfl, rfl, rfl, rfl, rfl, rfl, trivial⟩ (fun junk => ?_)
     generalize hce : at_ + digA n (d2 + 1 + 1) = cell at hr
     have hcb : 0 ≤ cell ∧ cell ≤ 5000 := by omega
     refine run_join (S := Sp) (fun _ => [(1, spP p), (2, .int .i64 v), (3, ptrA bx), (7, ptrA nb), (8, .int .i64 n), (9, .int .i64 ((d2 + 1 + 1 : Nat) : Int)), (18, .int .i64 cell)])
       (fun st Γ => Γ = [SpaceA p st, eV nb 0] ∧ Sm st (2 + 4 * d2) ∧ A.add n (d2 + 1 + 1) cell s2 = (0, st)) ?_ ?_
     · by_cases hz : n % pw (d2 + 1) = 0
       · refine zci (bool_eq (decide_eq_true hz)) ?_
         have ha : A.add n (d2 + 1 + 1) cell s2 = A.add n (d2 + 1 + 1) cell s2 := rfl
         conv at ha => rhs; unfold Ar.add
         rw [Nat.add_sub_cancel, if_pos hz] at ha
         have hT := atake_spec w0 p A hA s2 (hsm6.mono (by omega))
         have hsm7 : Sm (A.take s2).2.2 (2 + 4 * d2 + 1) := sm_take hsm6
         dsimp only at ha
         generalize A.take s2 = k1 at ha hT hsm7
         refine zyr ?_
         repeat' (refine zap rfl ?_;first|refine zdw rfl rfl (by omega) ?_|refine zau rfl rfl (by omega) ?_|refine zdu rfl rfl ?_|refine zan rfl ?_|refine zan rfl ?_|refine zaa 0 rfl rfl rfl ?_|refine zah [0] hT rfl rfl rfl zdj rfl ?_|refine zan rfl ?_)
         all_goals refine zyn ?_
         refine zyr ?_
         repeat' (refine zap rfl ?_;first|refine zdw rfl rfl (by omega) ?_|refine zau rfl rfl (by omega) ?_|refine zdu rfl rfl ?_|refine zan rfl ?_|refine zbp rfl rfl ?_)
         all_goals refine zyn ?_
         refine zed rfl (fun hE => ?_) (fun hE => ?_)
         · rw [if_neg hE] at ha
           rw [ha] at hr
           dsimp only at hr
           rw [if_neg hE] at hr
           dsimp only at hr
           rw [if_neg hE] at hr
           repeat' (first|refine zck ?_|refine zcp (by kernel_rfl) ?_|(refine zap rfl ?_;first|refine zdw rfl rfl (by omega) ?_|refine zau rfl rfl (by omega) ?_|refine zdu rfl rfl ?_|refine zan rfl ?_|refine zan rfl ?_|refine zae 1 rfl rfl rfl rfl rfl rfl rfl ?_)|refine zch ?_)
           exact qret rfl (fun _ _ h => h) (fin _ _ _ _ rfl rfl hr)
         · have hE : k1.2.1 = 0 := Decidable.of_not_not hE
           rw [if_pos hE] at ha
           repeat' (first|refine zcp (by kernel_rfl) ?_|refine zcm ?_|(refine zap rfl ?_;first|refine zdw rfl rfl (by omega) ?_|refine zau rfl rfl (by omega) ?_|refine zdu rfl rfl ?_|refine zan rfl ?_|refine zah [0] (putS w0 p _ _ _ (hsm7.mono (by omega))) rfl rfl rfl zdj rfl ?_)|refine zch ?_)
           exact zeq ⟨rfl, _, ⟨rfl, rfl, rfl, rfl, rfl, rfl, rfl, trivial⟩, ⟨rfl, sm_put hsm7, ha⟩⟩
       · refine zcj (bool_eq (decide_eq_false hz)) ?_
         repeat (first|refine zck ?_|refine zcl ?_|refine zcm ?_|refine zcn ?_|refine zco ?_)
         refine zeq ⟨rfl, s2, ⟨rfl, rfl, rfl, rfl, rfl, rfl, rfl, trivial⟩, ⟨rfl, hsm6.mono (by omega), ?_⟩⟩
         unfold Ar.add
         rw [Nat.add_sub_cancel, if_neg hz]
     rintro s3 Γ' junk ⟨rfl, hsm7, ha⟩
     rw [ha] at hr
     dsimp only at hr
     rw [if_pos rfl] at hr
     have hN := anode_spec w0 p A hA s3 cell (hsm7.mono (by omega))
     have hsm8 : Sm (A.node s3 cell).2.2 (2 + 4 * d2) := sm_node hsm7
     have hb3 := A.node_bd s3 cell
     have hdn2 : (A.node s3 cell).2.1 = true → A.down n (d2 + 1 + 1) at_ s2 = A.down n (d2 + 1) (A.node s3 cell).1 (A.node s3 cell).2.2 := fun h => by
       rw [hdn1]; simp [hce, ha, h]
     generalize A.node s3 cell = q at hr hN hsm8 hb3 hdn2
     refine zyr ?_
     repeat' (refine zap rfl ?_;first|refine zdw rfl rfl (by omega) ?_|refine zau rfl rfl (by omega) ?_|refine zdu rfl rfl ?_|refine zan rfl ?_|refine zan rfl ?_|refine zaa 0 rfl rfl rfl ?_|refine zah [0] hN rfl rfl rfl zdj rfl ?_|refine zan rfl ?_)
     all_goals refine zyn ?_
     refine zyr ?_
     repeat' (refine zap rfl ?_;first|refine zdw rfl rfl (by omega) ?_|refine zau rfl rfl (by omega) ?_|refine zdu rfl rfl ?_|refine zan rfl ?_|refine zbx rfl ?_)
     all_goals refine zyn ?_
     refine zee rfl (fun hE => ?_) (fun hE => ?_)
     · have hE : q.2.1 = false := by simpa using hE
       have hr : A.pushIn n v d t = (0, 24, q.2.2) := by rw [hr]; simp [hE]
       repeat' (first|refine zck ?_|refine zcp (by kernel_rfl) ?_|(refine zap rfl ?_;first|refine zdw rfl rfl (by omega) ?_|refine zau rfl rfl (by omega) ?_|refine zdu rfl rfl ?_|refine zan rfl ?_|refine zae 1 rfl rfl rfl rfl rfl rfl rfl ?_)|refine zch ?_)
       exact qret rfl (fun _ _ h => h) (fin _ _ _ _ rfl rfl hr)
     · have hE : q.2.1 = true := by simpa using hE
       repeat' (first|refine zcp (by kernel_rfl) ?_|refine zcm ?_|refine zcn ?_|(refine zap rfl ?_;first|refine zdw rfl rfl (by omega) ?_|refine zau rfl rfl (by omega) ?_|refine zdu rfl rfl ?_|refine zan rfl ?_|refine zan rfl ?_|refine zav rfl rfl (by omega) ?_)|refine zch ?_)
       exact zeq ⟨rfl, (d2, q.1, q.2.2), ⟨rfl, rfl, rfl, rfl, rfl, zes (by dsimp only; omega), rfl, trivial⟩, ⟨rfl, by dsimp only; omega, hb3, hsm8, hdn.trans (hdn2 hE)⟩, by dsimp only; omega⟩
end Go.Proofs.YtgdhcgnmffgkiaaGreatDoor
namespace Sim
open Go Go.Vc
def Ar.gives (A : Ar) (n : Int) (d now : Nat) : List Int → Nat → Int → Sp → Int × Int × Sp
 | [], _, gone, s => (0, gone, s)
 | a :: l, i, gone, s =>
   if (n - 1) % pw (d - i) ≠ 0 ∧ (0 < i ∨ now = d) then A.gives n d now l (i + 1) gone s
   else if (A.pool.give s a).1 = 0 then A.gives n d now l (i + 1) (gone + 1) (A.pool.give s a).2 else ((A.pool.give s a).1, gone, (A.pool.give s a).2)
def Ar.fell (A : Ar) (n : Int) (d now : Nat) (top gone : Int) (s : Sp) : Sp :=
 let s1 := if 0 < gone then (s.get (w64 (A.root + 7))).2.put (w64 (A.root + 7)) (w64 ((s.get (w64 (A.root + 7))).1 - gone)) else s
 let s2 := if now < d then (s1.put A.root top).put (w64 (A.root + 2)) now else s1
 s2.put (w64 (A.root + 1)) (n - 1)
def Ar.popOn (A : Ar) (n : Int) (d now : Nat) (l : List Int) (v top : Int) (s : Sp) : Int × Int × Sp :=
 let g := A.gives n d now l 0 0 s
 if g.1 = 0 then (v, 0, A.fell n d now top g.2.1 g.2.2) else (0, g.1, g.2.2)
def Ar.popIn (A : Ar) (n : Int) (d : Nat) (s : Sp) : Int × Int × Sp :=
 match A.way (n - 1) d A.root s [] with
 | (none, t) => (0, 24, t)
 | (some l, t) =>
   let g := t.get (l.getD (d - 1) 0 + digA (n - 1) 1)
   let now := dep (n - 1)
   if 0 < now ∧ now < d then
     let x := A.node g.2 (l.getD 0 0)
     if x.2.1 then A.popOn n d now l g.1 x.1 x.2.2 else (0, 24, x.2.2)
   else A.popOn n d now l g.1 (if 0 < now then l.getD 0 0 else 0) g.2
def Ar.undoPop (m : Int) (r : Int × Int × Sp) : Int × Int × Sp := if r.2.1 ≠ 0 then (0, r.2.1, r.2.2.back m) else r
def Ar.pop (A : Ar) (s : Sp) : Int × Int × Sp :=
 let m := A.many s
 if m.1 = 0 then (0, 8, m.2.2.2) else
 if m.2.2.1 then Ar.undoPop m.2.2.2.puts.length (A.popIn m.1 m.2.1.toNat m.2.2.2) else (0, 24, m.2.2.2)
end Sim
namespace Go.Proofs.YtgdhcgnmffgkiaaGreatDoor
variable (w0 : World)
open Go.Vc Sim
set_option maxHeartbeats 4000000
abbrev vV (vb : Nat) (x : Int) : Asn := pt vb (.cells (List.toArray [.int .i64 x]) 2 (0, 0))
abbrev mVA (b : Nat) (x : Int) : Asn := pt b (.cells (List.toArray [.int .i64 x]) 3 (0, 0))
abbrev sV (b p : Nat) : Asn := pt b (.cells (List.toArray [spP p]) 24 (0, 0))
theorem aback_spec (p : Nat) (s : Sp) (m : Int) (eb : Nat) (e : Int) : FnE PP w0 [] 161 [spP p, .int .i64 m, ptrA eb] [SpaceA p s, eV eb e]
   (.tuple #[]) [SpaceA p (if e ≠ 0 then s.back m else s), eV eb e] := by
 refine zep en161 fn161 rfl rfl rfl ?_
 repeat' (first|refine zck ?_|refine zcp (by kernel_rfl) ?_|(refine zap rfl ?_; first|refine zdw rfl rfl (by omega) ?_|refine zau rfl rfl (by omega) ?_|refine zdu rfl rfl ?_|refine zan rfl ?_|refine zab 1 rfl rfl rfl ?_|refine zbp rfl rfl ?_|refine zan rfl ?_)|refine zch ?_)
 refine zed rfl (fun hE => ?_) (fun hE => ?_)
 · repeat' (first|refine zcp (by kernel_rfl) ?_|(refine zap rfl ?_; first|refine zdw rfl rfl (by omega) ?_|refine zau rfl rfl (by omega) ?_|refine zdu rfl rfl ?_|refine zan rfl ?_|refine zah [0] (back_spec w0 p s m) rfl rfl rfl zdj rfl ?_)|refine zch ?_)
   rw [if_pos hE]; exact end_tmp0 rfl ⟨rfl, rfl⟩
 · repeat' (first|refine zcm ?_|(refine zap rfl ?_; first|refine zdw rfl rfl (by omega) ?_|refine zau rfl rfl (by omega) ?_|refine zdu rfl rfl ?_|refine zan rfl ?_)|refine zch ?_)
   rw [if_neg hE]; exact end_tmp0 rfl ⟨rfl, rfl⟩
theorem pop1_specD (p : Nat) (s : Sp) (mk e x : Int) (b3 b9 eb vb : Nat) : FnD PP w0 [] 166 [ptrA b3, ptrA b9, ptrA eb, ptrA vb] [SpaceA p s, eV eb e, vV vb x, sV b3 p, mVA b9 mk]
   fun v Γ' => v = .tuple #[] ∧ Γ' = [SpaceA p (if e ≠ 0 then s.back mk else s), eV eb e, vV vb (if e ≠ 0 then 0 else x), sV b3 p, mVA b9 mk] := by
 refine fnD_of_run en166 fn166 rfl rfl rfl ?_
 repeat' (first|refine zck ?_|refine zcp (by kernel_rfl) ?_|(refine zap rfl ?_; first|refine zdw rfl rfl (by omega) ?_|refine zau rfl rfl (by omega) ?_|refine zdu rfl rfl ?_|refine zab 1 rfl rfl rfl ?_|refine zab 3 rfl rfl rfl ?_|refine zab 4 rfl rfl rfl ?_|refine zah [0, 0] (aback_spec w0 p s mk eb e) rfl rfl rfl zdj rfl ?_|refine zbp rfl rfl ?_)|refine zch ?_)
 by_cases hE : e ≠ 0
 · refine zci (bool_eq (decide_eq_true hE)) ?_
   repeat' (first|refine zcp (by kernel_rfl) ?_|(refine zap rfl ?_; first|refine zdw rfl rfl (by omega) ?_|refine zau rfl rfl (by omega) ?_|refine zdu rfl rfl ?_|refine zae 2 rfl rfl rfl rfl rfl rfl rfl ?_)|refine zch ?_)
   refine run_nil ⟨rfl, ends_none rfl ?_⟩
   rw [if_pos hE, if_pos hE]; exact ⟨rfl, rfl⟩
 · refine zcj (bool_eq (decide_eq_false hE)) ?_
   repeat' (first|refine zcm ?_|(refine zap rfl ?_; first|refine zdw rfl rfl (by omega) ?_|refine zau rfl rfl (by omega) ?_|refine zdu rfl rfl ?_|refine zaj rfl ?_|refine zak rfl ?_|refine zal rfl ?_|refine zam rfl rfl (fun _ => ?_) (fun _ => ?_))|refine zch ?_)
   refine run_nil ⟨rfl, ends_none rfl ?_⟩
   rw [if_neg hE, if_neg hE]; exact ⟨rfl, rfl⟩
def popD (b3 b9 eb vb : Nat) : Deferred := { target := .fn (.func 166) (List.toArray [ptrA b3, ptrA b9, ptrA eb, ptrA vb]), args := List.toArray [] }
theorem pop_fin (p b3 b9 eb vb : Nat) (mk : Int) (r : Int × Int × Sp) (x e : Int) (s' : Sp) (ρ : Env) (h4 : ρ 4 = ptrA vb) (h5 : ρ 5 = ptrA eb) (hr : r = (x, e, s')) :
   LeavesS PP w0 [] Tryz.f80 ρ [popD b3 b9 eb vb] [SpaceA p s', vV vb x, eV eb e, mVA b9 mk, sV b3 p] (pushRV p (Ar.undoPop mk r)) := by
 subst hr
 refine leaves_defer1 [0, 1, 0, 1, 0] (pop1_specD w0 p s' mk e x b3 b9 eb vb) rfl rfl zdj ?_
 refine zek (zel [0] rfl (zen rfl (zeo 2 h4 rfl rfl) (zeo 1 h5 rfl rfl) ?_))
 refine ⟨rfl, ?_⟩
 unfold Ar.undoPop
 by_cases hE : e ≠ 0
 · simp only [if_pos hE]; exact ⟨rfl, rfl⟩
 · simp only [if_neg hE]; exact ⟨rfl, rfl⟩
end Go.Proofs.YtgdhcgnmffgkiaaGreatDoor
