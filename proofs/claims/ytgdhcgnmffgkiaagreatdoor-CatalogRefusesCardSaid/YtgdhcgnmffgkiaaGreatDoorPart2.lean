import Derived.Test.YtgdhcgnmffgkiaaGreatDoorRows
import Derived.Test.YtgdhcgnmffgkiaaGreatDoorTie
import Derived.Test.YtgdhcgnmffgkiaaGreatDoorCards
import Derived.SevenTiedAt
import Derived.OpenShut
import Derived.Handed
import Derived.Lib.LaidTab
import Derived.Test.YtgdhcgnmffgkiaaGreatDoorKit
import Derived.Test.YtgdhcgnmffgkiaaGreatDoorPart1
import Derived.Test.YtgdhcgnmffgkiaaGreatDoorKitA
/- Own work: lemmas of this claim. -/
namespace Go.Proofs.YtgdhcgnmffgkiaaGreatDoor
open Go.Vc Sim Go.ChangeShapes Go.WideShapes Go.RowKit
set_option maxRecDepth 100000
theorem cOwn : ownKnob Tryz.prog.godebug = none := by kernel_rfl
theorem cLaid : laidOutB Tryz.prog = true := by kernel_rfl
def nPow : String := Rows.catalogListsRow.named.headD ""
def lPow : List (String × DataW Unit) := [(nPow, Rows.laid_simulcast_array_powers)]
theorem door_met (os : Os) (args : Array Value) : laidMetH Tryz.prog lPow ((World.doorLaid Tryz.prog 400 os).forCall (fun _ _ => 0) ⟨#[], args, []⟩).memory :=
 laidMetH_of_parts3 (fuel := 8) (laidMet_of_run' 8 (by kernel_rfl) (by kernel_rfl)) (by kernel_rfl) (by kernel_rfl)
theorem calls_of {f : FuncId} {args : List Value} {W : World} (h : FnE PP W [] f args [] (.bool true) []) : Calls Tryz.prog f args.toArray W fun e W' => e = .returned (.bool true) ∧ Below W.heap.size W W' := by
 have := h.calls Heap.emp W (fun p hp => by cases hp) (st_start W)
 rw [PP_def] at this
 exact this.mono fun e W' ⟨v, Γ', he, ⟨hv, hΓ⟩, hst⟩ => ⟨by rw [he, hv], below_of_good hst.good⟩
end Go.Proofs.YtgdhcgnmffgkiaaGreatDoor
namespace Sim
open Go Go.Vc
structure Wd where
 val : Int
 ver : Int
 ref : Int
 deriving DecidableEq
structure Sp where
 kn : List (Int × Wd)
 rd : List Int
 puts : List (Int × Int)
 need : Int
 ended : Bool
def lookW : List (Int × Wd) → Int → Option Wd
 | [], _ => none
 | (a, w) :: r, x => if a = x then some w else lookW r x
def insI : List Int → Int → List Int
 | [], x => [x]
 | a :: r, x => if a = x then a :: r else a :: insI r x
def lastV : List (Int × Int) → Int → Option Int
 | [], _ => none
 | (a, v) :: r, x => match lastV r x with | some u => some u | none => if a = x then some v else none
def lastI (l : List (Int × Int)) (x : Int) : Int :=
 match l.length with
 | 0 => -1
 | _ => go l.length
where go : Nat → Int
 | 0 => -1
 | k + 1 => if (l[k]?.map (·.1)) = some x then k else go k
def Sp.reads (s : Sp) (a : Int) : Bool × Sp :=
 if s.ended then (false, s) else
 match lookW s.kn a with
 | none => (false, { s with ended := true, need := a })
 | some _ => (true, { s with rd := insI s.rd a })
def Sp.value (s : Sp) (a : Int) : Int × Bool :=
 match lastV s.puts a with
 | some v => (v, true)
 | none => (match lookW s.kn a with | some w => w.val | none => 0, false)
def Sp.get (s : Sp) (a : Int) : Int × Sp := if (s.reads a).1 then (((s.reads a).2.value a).1, (s.reads a).2) else (0, (s.reads a).2)
def Sp.put (s : Sp) (a v : Int) : Sp := if (s.reads a).1 then { (s.reads a).2 with puts := s.puts ++ [(a, v)] } else (s.reads a).2
def Sp.back (s : Sp) (m : Int) : Sp := if s.ended = false ∧ 0 ≤ m ∧ m ≤ s.puts.length then { s with puts := s.puts.take m.toNat } else s
def wordV (w : Wd) : Value := .agg #[.int .i64 w.val, .int .u32 w.ver, .int .u32 w.ref]
def knM : List (Int × Wd) → List (Int × Value)
 | [] => []
 | (a, w) :: r => (a, wordV w) :: knM r
def rdM : List Int → List (Int × Value)
 | [] => []
 | a :: r => (a, .bool true) :: rdM r
def flat : List (Int × Int) → List Value
 | [] => []
 | (a, v) :: r => .int .i64 a :: .int .i64 v :: flat r
theorem look_knM : ∀ (l : List (Int × Wd)) (a : Int), Vc.look (knM l) a = (lookW l a).map wordV
 | [], _ => rfl
 | (b, w) :: r, a => by
   simp only [knM, Vc.look, lookW]
   by_cases h : b = a <;> simp [h, look_knM r a]
theorem ins_rdM : ∀ (l : List Int) (a : Int), ins (rdM l) a (.bool true) = rdM (insI l a)
 | [], _ => rfl
 | b :: r, a => by
   simp only [rdM, ins, insI]
   by_cases h : b = a <;> simp [h, rdM, ins_rdM r a]
theorem flat_append : ∀ (l r : List (Int × Int)), flat (l ++ r) = flat l ++ flat r
 | [], _ => rfl
 | (_, _) :: l, r => by simp [flat, flat_append l r]
theorem flat_take : ∀ (l : List (Int × Int)) (k : Nat), (flat l).take (k * 2) = flat (l.take k)
 | [], k => by simp [flat]
 | (a, v) :: l, 0 => by simp [flat]
 | (a, v) :: l, k + 1 => by
   have : (k + 1) * 2 = k * 2 + 1 + 1 := by omega
   simp [flat, this, flat_take l k]
theorem flat_get : ∀ (l : List (Int × Int)) (k : Nat) (p : Int × Int), l[k]? = some p → nth (flat l) (k * 2) = some (.int .i64 p.1) ∧ nth (flat l) (k * 2 + 1) = some (.int .i64 p.2)
 | [], k, p, h => by simp at h
 | (a, v) :: l, 0, p, h => by simp at h; subst h; exact ⟨rfl, rfl⟩
 | (a, v) :: l, k + 1, p, h => by
   have e : (k + 1) * 2 = k * 2 + 1 + 1 := by omega
   simp only [List.getElem?_cons_succ] at h
   obtain ⟨h1, h2⟩ := flat_get l k p h
   exact ⟨by rw [e]; exact h1, by rw [e]; exact h2⟩
theorem lastI_spec (l : List (Int × Int)) (x : Int) (k : Nat) (hk : k ≤ l.length) (h : ∀ j, k ≤ j → j < l.length → ∀ p, l[j]? = some p → p.1 ≠ x) : lastI l x = lastI.go l x k := by
 have key : ∀ m, k + m ≤ l.length → lastI.go l x (k + m) = lastI.go l x k := by
   intro m
   induction m with
   | zero => intro _; rfl
   | succ m ih =>
     intro hm
     have hlt : k + m < l.length := by omega
     have := h (k + m) (by omega) hlt _ (List.getElem?_eq_getElem hlt)
     rw [← Nat.add_assoc]
     simp only [lastI.go]
     rw [if_neg (by rw [List.getElem?_eq_getElem hlt]; simpa using this)]
     exact ih (by omega)
 unfold lastI
 split
 · rename_i h0
   have : k = 0 := by omega
   subst this; rfl
 · obtain ⟨m, hm⟩ : ∃ m, l.length = k + m := ⟨l.length - k, by omega⟩
   rw [hm]; exact key m (by omega)
theorem go_lastV (l : List (Int × Int)) (x : Int) : ∀ k, k ≤ l.length →
   (lastV (l.take k) x = none ∧ lastI.go l x k = -1) ∨ (∃ j p, j < k ∧ l[j]? = some p ∧ p.1 = x ∧ lastV (l.take k) x = some p.2 ∧ lastI.go l x k = j) := by
 have snoc : ∀ (l : List (Int × Int)) (p : Int × Int), lastV (l ++ [p]) x = if p.1 = x then some p.2 else lastV l x := by
   intro l p
   induction l with
   | nil => simp [lastV]
   | cons q l ih =>
     obtain ⟨a, v⟩ := q
     simp only [List.cons_append, lastV, ih]
     by_cases h : p.1 = x <;> simp [h]
 intro k
 induction k with
 | zero => intro _; exact .inl ⟨by simp [lastV], rfl⟩
 | succ k ih =>
   intro hk
   have hlt : k < l.length := by omega
   have ht : l.take (k + 1) = l.take k ++ [l[k]] := List.take_succ_eq_append_getElem hlt
   rw [ht, snoc]
   simp only [lastI.go, List.getElem?_eq_getElem hlt, Option.map_some, Option.some.injEq]
   by_cases hx : (l[k]).1 = x
   · right
     exact ⟨k, l[k], by omega, List.getElem?_eq_getElem hlt, hx, by rw [if_pos hx], by rw [if_pos hx]⟩
   · rw [if_neg hx, if_neg hx]
     rcases ih (by omega) with ⟨h1, h2⟩ | ⟨j, p, h1, h2, h3, h4, h5⟩
     · exact .inl ⟨h1, h2⟩
     · exact .inr ⟨j, p, by omega, h2, h3, h4, h5⟩
theorem lastI_lastV (l : List (Int × Int)) (x : Int) : (lastV l x = none ∧ lastI l x = -1) ∨ (∃ (j : Nat) (p : Int × Int), j < l.length ∧ l[j]? = some p ∧ lastV l x = some p.2 ∧ lastI l x = j) := by
 have h1 := lastI_spec l x l.length (Nat.le_refl _) (fun j h1 h2 => by omega)
 rcases go_lastV l x l.length (Nat.le_refl _) with ⟨h2, h3⟩ | ⟨j, p, h2, h3, _, h4, h5⟩
 · left; rw [List.take_length] at h2; exact ⟨h2, h1.trans h3⟩
 · right; rw [List.take_length] at h4; exact ⟨j, p, h2, h3, h4, h1.trans h5⟩
end Sim
namespace Go.Proofs.YtgdhcgnmffgkiaaGreatDoor
variable (w0 : World)
open Go.Vc Sim
def SpaceParts (p : Nat) (s : Sp) (i : Nat × Nat × Option Addr × Nat) : List Asn :=
 [pt p (.cells #[.map (some i.1), .map (some i.2.1), .slice i.2.2.1 s.puts.length i.2.2.2, .int .i64 s.need, .bool s.ended] 88 (0, 0)),
  pt i.1 (mapI (knM s.kn)), pt i.2.1 (mapI (rdM s.rd)), SlA 247 2 i.2.2.1 s.puts.length i.2.2.2 (flat s.puts)]
def SpaceA (p : Nat) (s : Sp) : Asn := fun h => ∃ i, Stars (SpaceParts p s i) h
abbrev spP (p : Nat) : Value := .pointer (some ⟨p, 0, none⟩)
theorem ended_spec (p : Nat) (s : Sp) : FnE PP w0 [] 23 [spP p] [SpaceA p s] (.bool s.ended) [SpaceA p s] := by
 refine zep en23 fn23 rfl rfl rfl ?_
 refine run_open [0] (SpaceParts p s) rfl (fun _ h => h) ?_
 rintro ⟨bk, br, a, cap⟩
 repeat' first|refine zck ?_|refine zyq ?_|(refine zap rfl ?_;first|refine zaj rfl ?_|refine zab 0 rfl rfl rfl ?_|refine zaz rfl rfl ?_|refine zbv rfl ?_)|refine zp ?_|refine zyf rfl ?_|refine zch ?_
 refine run_close1 (A := SpaceA p s) [0, 0, 0, 0] rfl (fun _ h => ⟨(_, _, _, _), h⟩) ?_
 refine zej rfl ⟨rfl, rfl⟩
theorem mark_spec (p : Nat) (s : Sp) : FnE PP w0 [] 19 [spP p] [SpaceA p s] (.int .i64 s.puts.length) [SpaceA p s] := by
 refine zep en19 fn19 rfl rfl rfl ?_
 refine run_open [0] (SpaceParts p s) rfl (fun _ h => h) ?_
 rintro ⟨bk, br, a, cap⟩
 repeat' first|refine zck ?_|refine zcm ?_|refine zyq ?_|(refine zap rfl ?_;first|refine zab 0 rfl rfl rfl ?_|refine zce rfl ?_|refine zaz rfl rfl ?_)|refine zp ?_|refine zyf rfl ?_|refine zch ?_|refine zcj rfl ?_
 refine run_close1 (A := SpaceA p s) [0, 0, 0, 0] rfl (fun _ h => ⟨(_, _, _, _), h⟩) ?_
 refine zej rfl ⟨rfl, rfl⟩
theorem reads_spec (p : Nat) (s : Sp) (a : Int) : FnE PP w0 [] 103 [spP p, .int .i64 a] [SpaceA p s] (.bool (s.reads a).1) [SpaceA p (s.reads a).2] := by
 refine zep en103 fn103 rfl rfl rfl ?_
 repeat' first|refine zck ?_|refine zyq ?_|(refine zap rfl ?_;refine zah [0] (ended_spec w0 _ _) rfl rfl rfl zdj rfl ?_)|refine zp ?_|refine zch ?_
 refine zee rfl (fun hE => ?_) (fun hE => ?_)
 · repeat' first|refine zck ?_|refine zyq ?_|refine zp ?_|refine zch ?_
   refine zej rfl ?_
   have e : s.reads a = (false, s) := by simp [Sp.reads, hE]
   rw [e]; exact ⟨rfl, rfl⟩
 · refine run_open [0] (SpaceParts p s) rfl (fun _ h => h) ?_
   rintro ⟨bk, br, sa, cap⟩
   cases hk : lookW s.kn a with
   | none =>
     have hl : Vc.look (knM s.kn) a = none := by rw [look_knM, hk]; rfl
     repeat' first|refine zck ?_|refine zcm ?_|refine zyq ?_|(refine zap rfl ?_;first|refine reg_lookupOk 1 rfl rfl rfl hl ?_|refine zab 0 rfl rfl rfl ?_|refine zbx rfl ?_|refine zae 0 rfl rfl rfl rfl rfl rfl rfl ?_|refine zae 4 rfl rfl rfl rfl rfl rfl rfl ?_|refine zar (fun nb => ?_))|refine zp ?_|refine zyf rfl ?_|refine zch ?_|refine zci rfl ?_
     have e : s.reads a = (false, { s with ended := true, need := a }) := by simp [Sp.reads, hE, hk]
     rw [e]
     refine run_close1 (A := SpaceA p { s with ended := true, need := a }) [0, 0, 0, 0] rfl (fun _ h => ⟨(_, _, _, _), h⟩) ?_
     refine zej rfl ⟨rfl, rfl⟩
   | some wd =>
     have hl : Vc.look (knM s.kn) a = some (wordV wd) := by rw [look_knM, hk]; rfl
     repeat' first|refine zck ?_|refine zcm ?_|refine zyq ?_|(refine zap rfl ?_;first|refine reg_lookupOk 1 rfl rfl rfl hl ?_|refine reg_mapUpdate 2 rfl rfl rfl rfl rfl ?_|refine zab 0 rfl rfl rfl ?_|refine zbx rfl ?_|refine zae 4 rfl rfl rfl rfl rfl rfl rfl ?_|refine zar (fun nb => ?_))|refine zp ?_|refine zyf rfl ?_|refine zch ?_|refine zcj rfl ?_
     have e : s.reads a = (true, { s with rd := insI s.rd a }) := by simp [Sp.reads, hE, hk]
     rw [e]
     refine run_close1 (A := SpaceA p { s with rd := insI s.rd a }) [0, 0, 0, 0] rfl (fun _ h => ⟨(bk, br, sa, cap), by unfold SpaceParts; rw [← ins_rdM]; exact h⟩) ?_
     refine zej rfl ⟨rfl, rfl⟩
theorem last_spec (p : Nat) (s : Sp) (x : Int) (hlen : s.puts.length ≤ 1099511627776) : FnE PP w0 [] 193 [spP p, .int .i64 x] [SpaceA p s] (.int .i64 (lastI s.puts x)) [SpaceA p s] := by
 refine zep en193 fn193 rfl rfl rfl ?_
 refine run_open [0] (SpaceParts p s) rfl (fun _ h => h) ?_
 rintro ⟨bk, br, sa, cap⟩
 repeat' first|refine zck ?_|refine zcl ?_|refine zyq ?_|(refine zap rfl ?_;first|refine zab 0 rfl rfl rfl ?_|refine zce rfl ?_|refine zav rfl rfl (by omega) ?_)|refine zp ?_|refine zyf rfl ?_|refine zch ?_
 refine run_loop (S := Nat) (fun k => [(0, spP p), (1, .int .i64 x), (5, .int .i64 ((k : Int) - 1))])
   (fun k Γ => Γ = SpaceParts p s (bk, br, sa, cap) ∧ k ≤ s.puts.length ∧ ∀ j, k ≤ j → j < s.puts.length → ∀ p, s.puts[j]? = some p → p.1 ≠ x)
   (fun k => k) s.puts.length ⟨rfl, rfl, rfl, trivial⟩ ⟨rfl, Nat.le_refl _, fun j h1 h2 => absurd h2 (by omega)⟩ ?_
 rintro k Γ junk ⟨rfl, hk, hno⟩
 repeat' first|refine zck ?_|refine zyq ?_|(refine zap rfl ?_;refine zbt rfl rfl ?_)|refine zp ?_|refine zch ?_
 refine zed rfl (fun hc => ?_) (fun hc => ?_)
 · have hc : (0 : Int) ≤ (k : Int) - 1 := by simpa using hc
   refine run_sl_cases 3 rfl ?_ ?_
   · intro h1 h2 h3 h4; omega
   · intro nb h1 h2 h3
     subst h1
     obtain ⟨k, rfl⟩ : ∃ m, k = m + 1 := ⟨k - 1, by omega⟩
     have hlt : k < s.puts.length := by omega
     obtain ⟨q, hq⟩ : ∃ q, s.puts[k]? = some q := ⟨_, List.getElem?_eq_getElem hlt⟩
     have hr : ∀ o, o = k * 2 → rd false 1 (flat s.puts) o = some (.int .i64 q.1) := by
       intro o ho; subst ho; exact (flat_get _ _ _ hq).1
     repeat' first|refine zck ?_|refine zcm ?_|refine zcl ?_|refine zyq ?_|(refine zap rfl ?_;first|refine zag 3 rfl rfl (hr _ (by omega)) (by intro h; cases h) ?_|refine zab 0 rfl rfl rfl ?_|refine zbo rfl rfl ?_|refine zas rfl rfl (by omega) ?_)|refine zp ?_|refine zyf rfl ?_|refine zch ?_
     refine zee rfl (fun hE => ?_) (fun hE => ?_)
     · have hE : q.1 = x := by simpa using hE
       repeat' first|refine zck ?_|refine zyq ?_|refine zp ?_|refine zch ?_
       refine run_close1 (A := SpaceA p s) [0, 0, 0, 0] rfl (fun _ h => ⟨(_, _, _, _), h⟩) ?_
       refine qret1 (fun _ _ h => h) rfl ⟨zes ?_, rfl⟩
       rw [lastI_spec s.puts x (k + 1) hk hno]
       simp only [lastI.go, hq, Option.map_some, hE, if_true]
       omega
     · have hE : q.1 ≠ x := by simpa using hE
       repeat' first|refine zcm ?_|refine zcn ?_|refine zyq ?_|(refine zap rfl ?_;refine zav rfl rfl (by omega) ?_)|refine zp ?_|refine zch ?_
       refine zeq ⟨rfl, k, ⟨rfl, rfl, zes (by omega), trivial⟩, ⟨rfl, by omega, ?_⟩, by omega⟩
       intro j h1 h2 p hp
       by_cases hj : j = k
       · subst hj; rw [hq] at hp; cases hp; exact hE
       · exact hno j (by omega) h2 p hp
 · have hc : ¬ (0 : Int) ≤ (k : Int) - 1 := by simpa using hc
   have hk0 : k = 0 := by omega
   subst hk0
   repeat' first|refine zck ?_|refine zp ?_|refine zch ?_
   refine zer rfl rfl ?_
   repeat' first|refine zck ?_|refine zyq ?_|refine zp ?_|refine zch ?_
   refine run_close1 (A := SpaceA p s) [0, 0, 0, 0] rfl (fun _ h => ⟨(_, _, _, _), h⟩) ?_
   refine zej rfl ⟨zes ?_, rfl⟩
   rw [lastI_spec s.puts x 0 hk hno]; rfl
theorem value_spec (p : Nat) (s : Sp) (x : Int) (hlen : s.puts.length ≤ 1099511627776) : FnE PP w0 [] 104 [spP p, .int .i64 x] [SpaceA p s] (.tuple #[.int .i64 (s.value x).1, .bool (s.value x).2]) [SpaceA p s] := by
 refine zep en104 fn104 rfl rfl rfl ?_
 rcases lastI_lastV s.puts x with ⟨h1, h2⟩ | ⟨j, q, h1, hq, h2, h3⟩
 · repeat' first|refine zck ?_|refine zyq ?_|(refine zap rfl ?_;first|refine zah [0] (last_spec w0 p s x hlen) rfl rfl rfl zdj rfl ?_|refine zbt rfl rfl ?_)|refine zp ?_|refine zch ?_
   refine zcj (by rw [h2]; rfl) ?_
   refine run_open [0] (SpaceParts p s) rfl (fun _ h => h) ?_
   rintro ⟨bk, br, sa, cap⟩
   cases hk : lookW s.kn x with
   | none =>
     have hl : Vc.look (knM s.kn) x = none := by rw [look_knM, hk]; rfl
     repeat' first|refine zck ?_|refine zcm ?_|refine zyq ?_|(refine zap rfl ?_;first|refine reg_lookup1 1 rfl rfl rfl hl ?_|refine reg_fieldV rfl rfl ?_|refine zab 0 rfl rfl rfl ?_)|refine zp ?_|refine zyf rfl ?_|refine zch ?_
     have e : s.value x = (0, false) := by simp [Sp.value, h1, hk]
     rw [e]
     refine run_close1 (A := SpaceA p s) [0, 0, 0, 0] rfl (fun _ h => ⟨(_, _, _, _), h⟩) ?_
     refine zei rfl ⟨rfl, rfl⟩
   | some wd =>
     have hl : Vc.look (knM s.kn) x = some (wordV wd) := by rw [look_knM, hk]; rfl
     repeat' first|refine zck ?_|refine zcm ?_|refine zyq ?_|(refine zap rfl ?_;first|refine reg_lookup1 1 rfl rfl rfl hl ?_|refine reg_fieldV rfl rfl ?_|refine zab 0 rfl rfl rfl ?_)|refine zp ?_|refine zyf rfl ?_|refine zch ?_
     have e : s.value x = (wd.val, false) := by simp [Sp.value, h1, hk]
     rw [e]
     refine run_close1 (A := SpaceA p s) [0, 0, 0, 0] rfl (fun _ h => ⟨(_, _, _, _), h⟩) ?_
     refine zei rfl ⟨rfl, rfl⟩
 · have hr : ∀ o, o = j * 2 + 1 → rd false 1 (flat s.puts) o = some (.int .i64 q.2) := by
     intro o ho; subst ho; exact (flat_get _ _ _ hq).2
   repeat' first|refine zck ?_|refine zyq ?_|(refine zap rfl ?_;first|refine zah [0] (last_spec w0 p s x hlen) rfl rfl rfl zdj rfl ?_|refine zbt rfl rfl ?_)|refine zp ?_|refine zch ?_
   refine zci (by rw [h3]; exact bool_eq (by simp)) ?_
   refine run_open [0] (SpaceParts p s) rfl (fun _ h => h) ?_
   rintro ⟨bk, br, sa, cap⟩
   refine run_sl_cases 3 rfl (fun _ h => absurd h (by omega)) ?_
   intro nb e1 e2 e3
   subst e1
   repeat' first|refine zck ?_|refine zyq ?_|(refine zap rfl ?_;first|refine zag 3 rfl rfl (hr _ (by omega)) (by intro h; cases h) ?_|refine zab 0 rfl rfl rfl ?_|refine zas rfl rfl (by omega) ?_)|refine zp ?_|refine zyf rfl ?_|refine zch ?_
   have e : s.value x = (q.2, true) := by simp [Sp.value, h2]
   rw [e]
   refine run_close1 (A := SpaceA p s) [0, 0, 0, 0] rfl (fun _ h => ⟨(_, _, _, _), h⟩) ?_
   refine zei rfl ⟨rfl, rfl⟩
theorem reads_puts (s : Sp) (x : Int) : (s.reads x).2.puts = s.puts := by unfold Sp.reads; split; rfl; split <;> rfl
theorem get_spec (p : Nat) (s : Sp) (x : Int) (hlen : s.puts.length ≤ 1099511627776) : FnE PP w0 [] 36 [spP p, .int .i64 x] [SpaceA p s] (.int .i64 (s.get x).1) [SpaceA p (s.get x).2] := by
 refine zep en36 fn36 rfl rfl rfl ?_
 repeat' first|refine zck ?_|refine zyq ?_|(refine zap rfl ?_;first|refine zah [0] (reads_spec w0 p s x) rfl rfl rfl zdj rfl ?_|refine zbx rfl ?_)|refine zp ?_|refine zch ?_
 refine zee rfl (fun hE => ?_) (fun hE => ?_)
 · have hE : (s.reads x).1 = false := by simpa using hE
   repeat' first|refine zck ?_|refine zyq ?_|refine zp ?_|refine zch ?_
   have e : s.get x = (0, (s.reads x).2) := by simp [Sp.get, hE]
   rw [e]
   refine zej rfl ⟨rfl, rfl⟩
 · have hE : (s.reads x).1 = true := by simpa using hE
   repeat' first|refine zck ?_|refine zcm ?_|refine zyq ?_|(refine zap rfl ?_;refine zah [0] (value_spec w0 p (s.reads x).2 x (by rw [reads_puts]; exact hlen)) rfl rfl rfl zdj rfl ?_)|refine zp ?_|refine zch ?_
   have e : s.get x = (((s.reads x).2.value x).1, (s.reads x).2) := by simp [Sp.get, hE]
   rw [e]
   refine zej rfl ⟨rfl, rfl⟩
theorem put_spec (p : Nat) (s : Sp) (x v : Int) (hlen : s.puts.length ≤ 1099511627776) : FnE PP w0 [] 109 [spP p, .int .i64 x, .int .i64 v] [SpaceA p s] (.tuple #[]) [SpaceA p (s.put x v)] := by
 refine zep en109 fn109 rfl rfl rfl ?_
 repeat' first|refine zck ?_|refine zyq ?_|(refine zap rfl ?_;refine zah [0] (reads_spec w0 p s x) rfl rfl rfl zdj rfl ?_)|refine zp ?_|refine zch ?_
 refine zee rfl (fun hE => ?_) (fun hE => ?_)
 · generalize hs1 : (s.reads x).2 = s1
   have hp1 : s1.puts = s.puts := by rw [← hs1, reads_puts]
   have e : s.put x v = { s1 with puts := s1.puts ++ [(x, v)] } := by simp [Sp.put, hE, hs1, hp1]
   rw [e]
   refine run_open [0] (SpaceParts p s1) rfl (fun _ h => h) ?_
   rintro ⟨bk, br, sa, cap⟩
   repeat' first|refine zyq ?_|(refine zap rfl ?_;first|refine zcb rfl ?_|refine zdt rfl rfl rfl rfl rfl rfl (fun nb => ?_)|refine zdz 3 4 rfl rfl rfl rfl rfl rfl rfl rfl (by rw [hp1]; omega) (fun _ _ => rfl) (fun a' cap' => ?_)|refine zab 0 rfl rfl rfl ?_|refine zae 0 rfl rfl rfl rfl rfl rfl rfl ?_)|refine zp ?_|refine zyf rfl ?_|refine zch ?_
   refine run_close1 (A := SpaceA p { s1 with puts := s1.puts ++ [(x, v)] }) [0, 0, 0, 0] rfl (fun _ h => ⟨(bk, br, a', cap'), by unfold SpaceParts; rw [flat_append, List.length_append]; exact h⟩) ?_
   exact end_tmp0 rfl ⟨rfl, rfl⟩
 · have e : s.put x v = (s.reads x).2 := by simp [Sp.put, hE]
   rw [e]
   repeat' first|refine zcm ?_|refine zp ?_|refine zch ?_
   exact end_tmp0 rfl ⟨rfl, rfl⟩
theorem back_spec (p : Nat) (s : Sp) (m : Int) : FnE PP w0 [] 122 [spP p, .int .i64 m] [SpaceA p s] (.tuple #[]) [SpaceA p (s.back m)] := by
 refine zep en122 fn122 rfl rfl rfl ?_
 obtain ⟨kn, rd, puts, need, ended⟩ := s
 generalize hs : (⟨kn, rd, puts, need, ended⟩ : Sp) = s
 cases ended with
 | true =>
   have e : s.back m = s := by rw [← hs]; simp [Sp.back]
   rw [e, ← hs]
   repeat' first|refine zck ?_|refine zcm ?_|refine zyq ?_|(refine zap rfl ?_;first|refine zak rfl ?_|refine zah [0] (ended_spec w0 p _) rfl rfl rfl zdj rfl ?_|refine zbx rfl ?_|refine zbv rfl ?_)|refine zp ?_|refine zch ?_|refine zcj rfl ?_
   exact end_tmp0 rfl ⟨rfl, rfl⟩
 | false =>
   by_cases h0 : 0 ≤ m
   · have d0 : decide (0 ≤ m) = true := decide_eq_true h0
     by_cases h1 : m ≤ puts.length
     · have d1 : decide (m ≤ (puts.length : Int)) = true := decide_eq_true h1
       have e : s.back m = ⟨kn, rd, puts.take m.toNat, need, false⟩ := by rw [← hs]; simp [Sp.back, h0, h1]
       rw [e, ← hs]
       repeat' first|refine zck ?_|refine zyq ?_|(refine zap rfl ?_;first|(refine zbt rfl rfl ?_; rw [d0])|refine zaj rfl ?_|refine zah [0] (ended_spec w0 p _) rfl rfl rfl zdj rfl ?_|refine zbx rfl ?_|refine zbu rfl ?_)|refine zp ?_|refine zyf rfl ?_|refine zch ?_
       refine reg_open [0] (SpaceParts p ⟨kn, rd, puts, need, false⟩) rfl rfl (fun _ h => h) ?_
       rintro ⟨bk, br, sa, cap⟩
       refine reg_know rfl (sl_know 3 rfl) (fun hcap => ?_)
       have hcap2 : puts.length ≤ cap := hcap.2
       repeat' first|refine zyq ?_|(refine zap rfl ?_;first|(refine zbr rfl rfl ?_; rw [d1])|refine reg_slice3 rfl rfl rfl (h' := m) (m' := m) ⟨h0, Int.le_refl _, Int.le_trans h1 (Int.ofNat_le.2 hcap2)⟩ ?_|refine zaj rfl ?_|refine zab 0 rfl rfl rfl ?_|refine zce rfl ?_|refine zbu rfl ?_|refine zae 0 rfl rfl rfl rfl rfl rfl rfl ?_)|refine zp ?_|refine zyf rfl ?_|refine zch ?_|refine zci rfl ?_
       refine zef 3 (SlA 247 2 sa m.toNat m.toNat ((flat puts).take (m.toNat * 2))) rfl (fun g hg => SlA_cut hg (by show m.toNat ≤ puts.length; omega)) rfl ?_
       have hl : (puts.take m.toNat).length = m.toNat := by rw [List.length_take]; omega
       refine run_close1 (A := SpaceA p ⟨kn, rd, puts.take m.toNat, need, false⟩) [0, 0, 0, 0] rfl (fun _ h => ⟨(bk, br, sa, m.toNat), by unfold SpaceParts; rw [hl, ← flat_take]; exact h⟩) ?_
       exact end_tmp0 rfl ⟨rfl, rfl⟩
     · have d1 : decide (m ≤ (puts.length : Int)) = false := decide_eq_false h1
       have e : s.back m = s := by rw [← hs]; simp [Sp.back, h1]
       rw [e, ← hs]
       repeat' first|refine zck ?_|refine zyq ?_|(refine zap rfl ?_;first|(refine zbt rfl rfl ?_; rw [d0])|refine zaj rfl ?_|refine zah [0] (ended_spec w0 p _) rfl rfl rfl zdj rfl ?_|refine zbx rfl ?_|refine zbu rfl ?_)|refine zp ?_|refine zyf rfl ?_|refine zch ?_
       refine reg_open [0] (SpaceParts p ⟨kn, rd, puts, need, false⟩) rfl rfl (fun _ h => h) ?_
       rintro ⟨bk, br, sa, cap⟩
       repeat' first|refine zcm ?_|(refine zap rfl ?_;first|(refine zbr rfl rfl ?_; rw [d1])|refine zaj rfl ?_|refine zab 0 rfl rfl rfl ?_|refine zce rfl ?_|refine zbu rfl ?_)|refine zch ?_|refine zcj rfl ?_
       refine run_close1 (A := SpaceA p ⟨kn, rd, puts, need, false⟩) [0, 0, 0, 0] rfl (fun _ h => ⟨(bk, br, sa, cap), h⟩) ?_
       exact end_tmp0 rfl ⟨rfl, rfl⟩
   · have d0 : decide (0 ≤ m) = false := decide_eq_false h0
     have e : s.back m = s := by rw [← hs]; simp [Sp.back, h0]
     rw [e, ← hs]
     repeat' first|refine zck ?_|refine zcm ?_|refine zyq ?_|(refine zap rfl ?_;first|(refine zbt rfl rfl ?_; rw [d0])|refine zaj rfl ?_|refine zak rfl ?_|refine zah [0] (ended_spec w0 p _) rfl rfl rfl zdj rfl ?_|refine zbx rfl ?_|refine zbu rfl ?_|refine zbv rfl ?_)|refine zp ?_|refine zch ?_|refine zcj rfl ?_
     exact end_tmp0 rfl ⟨rfl, rfl⟩
end Go.Proofs.YtgdhcgnmffgkiaaGreatDoor
namespace Sim
open Go Go.Vc
inductive Pg (α : Type) : Type where
 | ret : α → Pg α
 | get : Int → (Int → Pg α) → Pg α
 | put : Int → Int → Pg α → Pg α
 | mark : (Nat → Pg α) → Pg α
 | back : Nat → Pg α → Pg α
namespace Pg
variable {α β γ : Type}
def bind : Pg α → (α → Pg β) → Pg β
 | ret a, f => f a
 | get x k, f => get x fun v => (k v).bind f
 | put x v k, f => put x v (k.bind f)
 | mark k, f => mark fun m => (k m).bind f
 | back m k, f => back m (k.bind f)
instance : Monad Pg where
 pure := ret
 bind := bind
def gt (x : Int) : Pg Int := get x ret
def pt (x v : Int) : Pg Unit := put x v (ret ())
def mk : Pg Nat := mark ret
def bk (m : Nat) : Pg Unit := back m (ret ())
def run : Pg α → Sp → α × Sp
 | ret a, s => (a, s)
 | get x k, s => run (k (s.get x).1) (s.get x).2
 | put x v k, s => run k (s.put x v)
 | mark k, s => run (k s.puts.length) s
 | back m k, s => run k (s.back m)
def Fits : Pg α → Sp → Prop
 | ret _, s => s.puts.length ≤ 1099511627776
 | get x k, s => s.puts.length ≤ 1099511627776 ∧ Fits (k (s.get x).1) (s.get x).2
 | put x v k, s => s.puts.length ≤ 1099511627776 ∧ Fits k (s.put x v)
 | mark k, s => s.puts.length ≤ 1099511627776 ∧ Fits (k s.puts.length) s
 | back m k, s => s.puts.length ≤ 1099511627776 ∧ Fits k (s.back m)
theorem Fits.here : ∀ {g : Pg α} {s : Sp}, Fits g s → s.puts.length ≤ 1099511627776
 | ret _, _, h => h
 | get _ _, _, h => h.1
 | put _ _ _, _, h => h.1
 | mark _, _, h => h.1
 | back _ _, _, h => h.1
theorem run_bind (f : α → Pg β) : ∀ (g : Pg α) (s : Sp), run (g >>= f) s = run (f (run g s).1) (run g s).2
 | ret _, _ => rfl
 | get x k, s => run_bind f (k (s.get x).1) (s.get x).2
 | put x v k, s => run_bind f k (s.put x v)
 | mark k, s => run_bind f (k s.puts.length) s
 | back m k, s => run_bind f k (s.back m)
theorem fits_bind (f : α → Pg β) : ∀ (g : Pg α) (s : Sp), Fits (g >>= f) s → Fits g s ∧ Fits (f (run g s).1) (run g s).2
 | ret _, _, h => ⟨Fits.here h, h⟩
 | get x k, s, h => let ⟨h1, h2⟩ := fits_bind f (k (s.get x).1) (s.get x).2 h.2; ⟨⟨h.1, h1⟩, h2⟩
 | put x v k, s, h => let ⟨h1, h2⟩ := fits_bind f k (s.put x v) h.2; ⟨⟨h.1, h1⟩, h2⟩
 | mark k, s, h => let ⟨h1, h2⟩ := fits_bind f (k s.puts.length) s h.2; ⟨⟨h.1, h1⟩, h2⟩
 | back m k, s, h => let ⟨h1, h2⟩ := fits_bind f k (s.back m) h.2; ⟨⟨h.1, h1⟩, h2⟩
theorem bind_assoc (f : α → Pg β) (g : β → Pg γ) : ∀ (x : Pg α), (x >>= f) >>= g = x >>= fun a => f a >>= g
 | ret _ => rfl
 | get x k => congrArg (get x) (funext fun v => bind_assoc f g (k v))
 | put x v k => congrArg (put x v) (bind_assoc f g k)
 | mark k => congrArg mark (funext fun m => bind_assoc f g (k m))
 | back m k => congrArg (back m) (bind_assoc f g k)
theorem pure_bind (a : α) (f : α → Pg β) : (pure a >>= f) = f a := rfl
theorem ite_bind (c : Prop) [Decidable c] (x y : Pg α) (f : α → Pg β) : ((if c then x else y) >>= f) = if c then x >>= f else y >>= f := by split <;> rfl
theorem bind_pure : ∀ (x : Pg α), (x >>= fun a => pure a) = x
 | ret _ => rfl
 | get x k => congrArg (get x) (funext fun v => bind_pure (k v))
 | put x v k => congrArg (put x v) (bind_pure k)
 | mark k => congrArg mark (funext fun m => bind_pure (k m))
 | back m k => congrArg (back m) (bind_pure k)
def Bd : Nat → Pg α → Prop
 | _, ret _ => True
 | j, get _ k => ∀ v, Bd j (k v)
 | 0, put _ _ _ => False
 | j + 1, put _ _ k => Bd j k
 | j, mark k => ∀ m, Bd j (k m)
 | j, back _ k => Bd j k
theorem Bd.mono : ∀ {g : Pg α} {i j : Nat}, i ≤ j → Bd i g → Bd j g
 | ret _, i, j, _, _ => by simp [Bd]
 | get _ k, i, j, h, hb => by simp only [Bd] at hb ⊢; exact fun v => Bd.mono h (hb v)
 | put _ _ k, 0, j, h, hb => by simp [Bd] at hb
 | put _ _ k, i + 1, 0, h, hb => absurd h (by omega)
 | put _ _ k, i + 1, j + 1, h, hb => by simp only [Bd] at hb ⊢; exact Bd.mono (by omega) hb
 | mark k, i, j, h, hb => by simp only [Bd] at hb ⊢; exact fun v => Bd.mono h (hb v)
 | back _ k, i, j, h, hb => by simp only [Bd] at hb ⊢; exact Bd.mono h hb
theorem bd_bind {f : α → Pg β} {j : Nat} (hf : ∀ a, Bd j (f a)) : ∀ {g : Pg α} {i : Nat}, Bd i g → Bd (i + j) (g >>= f)
 | ret a, i, _ => Bd.mono (by omega) (hf a)
 | get x k, i, h => by
   simp only [Bd] at h
   show Bd (i + j) (get x fun v => (k v >>= f))
   simp only [Bd]
   exact fun v => bd_bind hf (h v)
 | put x v k, 0, h => by simp [Bd] at h
 | put x v k, i + 1, h => by
   simp only [Bd] at h
   show Bd (i + 1 + j) (put x v (k >>= f))
   rw [show i + 1 + j = (i + j) + 1 by omega]
   simp only [Bd]
   exact bd_bind hf h
 | mark k, i, h => by
   simp only [Bd] at h
   show Bd (i + j) (mark fun v => (k v >>= f))
   simp only [Bd]
   exact fun v => bd_bind hf (h v)
 | back m k, i, h => by
   simp only [Bd] at h
   show Bd (i + j) (back m (k >>= f))
   simp only [Bd]
   exact bd_bind hf h
theorem bd_seq {f : α → Pg β} {g : Pg α} {i j n : Nat} (hg : Bd i g) (hf : ∀ a, Bd j (f a)) (h : i + j ≤ n) : Bd n (g >>= f) := (bd_bind hf hg).mono h
theorem bd_then {f : α → Pg β} {g : Pg α} {i n : Nat} (hg : Bd i g) (hf : ∀ a, Bd (n - i) (f a)) (h : i ≤ n) : Bd n (g >>= f) := bd_seq hg hf (by omega)
theorem bd_gt0 (x : Int) : Bd 0 (gt x) := fun _ => trivial
theorem bd_mk0 : Bd 0 mk := fun _ => trivial
theorem bd_bk0 (m : Nat) : Bd 0 (bk m) := trivial
theorem bd_pure {j : Nat} (a : α) : Bd j (pure a : Pg α) := by show Bd j (ret a); simp [Bd]
theorem bd_pt (x v : Int) : Bd 1 (pt x v) := by simp [pt, Bd]
theorem bd_ite {c : Prop} [Decidable c] {x y : Pg α} {j : Nat} (hx : Bd j x) (hy : Bd j y) : Bd j (if c then x else y) := by split <;> assumption
theorem reads_puts' (s : Sp) (x : Int) : (s.reads x).2.puts = s.puts := by unfold Sp.reads; split; rfl; split <;> rfl
theorem get_puts (s : Sp) (x : Int) : (s.get x).2.puts = s.puts := by simp only [Sp.get]; split <;> exact reads_puts' s x
theorem put_len (s : Sp) (x v : Int) : (s.put x v).puts.length ≤ s.puts.length + 1 := by
 simp only [Sp.put]; split
 · simp
 · rw [reads_puts']; omega
theorem back_len (s : Sp) (m : Int) : (s.back m).puts.length ≤ s.puts.length := by
 simp only [Sp.back]; split
 · simp; omega
 · exact Nat.le_refl _
theorem fits_of : ∀ (g : Pg α) (j : Nat) (s : Sp), Bd j g → s.puts.length + j ≤ 1099511627776 → Fits g s
 | ret _, _, s, _, h => by simp only [Fits]; omega
 | get x k, j, s, hb, h => by
   simp only [Bd] at hb
   exact ⟨by omega, fits_of _ j _ (hb _) (by rw [get_puts]; exact h)⟩
 | put x v k, 0, s, hb, h => by simp [Bd] at hb
 | put x v k, j + 1, s, hb, h => by
   simp only [Bd] at hb
   have h2 := put_len s x v
   exact ⟨by omega, fits_of _ j _ hb (by omega)⟩
 | mark k, j, s, hb, h => by
   simp only [Bd] at hb
   exact ⟨by omega, fits_of _ j _ (hb _) h⟩
 | back m k, j, s, hb, h => by
   simp only [Bd] at hb
   have h2 := back_len s m
   exact ⟨by omega, fits_of _ j _ hb (by omega)⟩
def All (φ : α → Prop) : Pg α → Prop
 | ret a => φ a
 | get _ k => ∀ v, All φ (k v)
 | put _ _ k => All φ k
 | mark k => ∀ m, All φ (k m)
 | back _ k => All φ k
theorem all_run {φ : α → Prop} : ∀ {g : Pg α} {s : Sp}, All φ g → φ (run g s).1
 | ret _, _, h => h
 | get x k, s, h => all_run (g := k (s.get x).1) (s := (s.get x).2) (h _)
 | put x v k, s, h => all_run (g := k) (s := s.put x v) h
 | mark k, s, h => all_run (g := k s.puts.length) (s := s) (h _)
 | back m k, s, h => all_run (g := k) (s := s.back m) h
theorem all_bind {φ : β → Prop} {ψ : α → Prop} {f : α → Pg β} (hf : ∀ a, ψ a → All φ (f a)) : ∀ {g : Pg α}, All ψ g → All φ (g >>= f)
 | ret a, h => hf a h
 | get _ _, h => fun v => all_bind hf (h v)
 | put _ _ k, h => all_bind (g := k) hf h
 | mark _, h => fun m => all_bind hf (h m)
 | back _ k, h => all_bind (g := k) hf h
theorem all_then {φ : β → Prop} {f : α → Pg β} (hf : ∀ a, All φ (f a)) : ∀ {g : Pg α}, All φ (g >>= f)
 | ret a => hf a
 | get _ _ => fun _ => all_then hf
 | put _ _ k => all_then (g := k) hf
 | mark _ => fun _ => all_then hf
 | back _ k => all_then (g := k) hf
theorem all_ite {φ : α → Prop} {c : Prop} [Decidable c] {x y : Pg α} (hx : c → All φ x) (hy : ¬ c → All φ y) : All φ (if c then x else y) := by split; exact hx ‹_›; exact hy ‹_›
theorem all_pure {φ : α → Prop} {a : α} (h : φ a) : All φ (pure a : Pg α) := h
end Pg
structure At {α : Type} (R : α × Sp) (g : Pg α) (s : Sp) : Prop where
 eq : R = Pg.run g s
 fits : Pg.Fits g s
theorem At.start {α : Type} {g : Pg α} {s : Sp} (h : Pg.Fits g s) : At (Pg.run g s) g s := ⟨rfl, h⟩
theorem At.step {α β : Type} {R : β × Sp} {g : Pg α} {f : α → Pg β} {s : Sp} (h : At R (g >>= f) s) : Pg.Fits g s ∧ At R (f (Pg.run g s).1) (Pg.run g s).2 :=
 ⟨(Pg.fits_bind f g s h.fits).1, h.eq.trans (Pg.run_bind f g s), (Pg.fits_bind f g s h.fits).2⟩
theorem At.to {α : Type} {R : α × Sp} {g g' : Pg α} {s : Sp} (h : At R g s) (e : g = g') : At R g' s := e ▸ h
theorem At.last {α : Type} {R : α × Sp} {g : Pg α} {s : Sp} (h : At R g s) : Pg.Fits g s ∧ At R (Pg.ret (Pg.run g s).1) (Pg.run g s).2 :=
 At.step (f := fun a => (pure a : Pg α)) (h.to (Pg.bind_pure g).symm)
theorem At.done {α : Type} {R : α × Sp} {a : α} {s : Sp} (h : At R (Pg.ret a) s) : R = (a, s) := h.eq
end Sim
namespace Go.Proofs.YtgdhcgnmffgkiaaGreatDoor
variable (w0 : World)
open Go.Vc Sim
abbrev FnG {α : Type} (w0 : World) (sh : Shared) (f : FuncId) (args : List Value) (p : Nat) (g : Pg α) (enc : α → Value) : Prop :=
 ∀ s, Pg.Fits g s → FnE PP w0 sh f args [SpaceA p s] (enc (Pg.run g s).1) [SpaceA p (Pg.run g s).2]
section
variable {w0 : World} {n : Nat} {sh shf : Shared} {Q : Exit → Env → List Deferred → List Asn → Prop} {k : List Item} {ρ : Env} {df : List Deferred} {Γ Γr : List Asn}
variable {ops : Array Oper} {l : List (Fl × Nat × Oper)} {i : Nat} {ty : TypeId} {pos : String} {aft : Array Edge} {dst : Option Tmp}
variable {f : FuncId} {args : List Value} {fo : Operand} {cargs : Array Operand} {ats : Array TypeId} {first cap : Array Value}
theorem zdk (is : List Nat) {α β : Type} {R : β × Sp} {g : Pg α} {kk : α → Pg β} {s : Sp} {p : Nat} {enc : α → Value} (hG : At R (g >>= kk) s) (spec : FnG w0 shf f args p g enc)
   (hfo : ev ρ fo = .func (.func f) first cap) (hargs : first.toList ++ cargs.toList.map (ev ρ) ++ cap.toList = args)
   (hp : pick is Γ = some ([SpaceA p s], Γr)) (hsh : ∀ p ∈ shf, p ∈ sh) (h : ∀ x s', At R (kk x) s' → Reg PP w0 n sh Q ops l k (ρ.setO dst (enc x)) df (SpaceA p s' :: Γr)) :
   Reg PP w0 n sh Q ops ((Fl.loud, i, ⟨dst, .call ⟨.value fo, cargs, ats⟩, ty, pos, aft, none⟩) :: l) k ρ df Γ :=
 zah is (spec s hG.step.1) hfo hargs hp hsh rfl (h _ _ hG.step.2)
theorem zdl (is : List Nat) {α β : Type} {R : β × Sp} {g : Pg α} {kk : α → Pg β} {s : Sp} {p : Nat} {enc : α → Value} {φ : α → Prop} (hG : At R (g >>= kk) s) (hφ : Pg.All φ g) (spec : FnG w0 shf f args p g enc)
   (hfo : ev ρ fo = .func (.func f) first cap) (hargs : first.toList ++ cargs.toList.map (ev ρ) ++ cap.toList = args)
   (hp : pick is Γ = some ([SpaceA p s], Γr)) (hsh : ∀ p ∈ shf, p ∈ sh) (h : ∀ x s', φ x → At R (kk x) s' → Reg PP w0 n sh Q ops l k (ρ.setO dst (enc x)) df (SpaceA p s' :: Γr)) :
   Reg PP w0 n sh Q ops ((Fl.loud, i, ⟨dst, .call ⟨.value fo, cargs, ats⟩, ty, pos, aft, none⟩) :: l) k ρ df Γ :=
 zah is (spec s hG.step.1) hfo hargs hp hsh rfl (h _ _ (Pg.all_run hφ) hG.step.2)
end
theorem getG (p : Nat) (x : Int) : FnG w0 [] 36 [spP p, .int .i64 x] p (Pg.gt x) (.int .i64) := fun s h => get_spec w0 p s x h.1
theorem putG (p : Nat) (x v : Int) : FnG w0 [] 109 [spP p, .int .i64 x, .int .i64 v] p (Pg.pt x v) (fun _ => .tuple #[]) := fun s h => put_spec w0 p s x v h.1
theorem markG (p : Nat) : FnG w0 [] 19 [spP p] p Pg.mk (fun m => .int .i64 m) := fun s _ => mark_spec w0 p s
end Go.Proofs.YtgdhcgnmffgkiaaGreatDoor
namespace Sim
open Go Go.Vc
def Sm (s : Sp) (j : Nat) : Prop := s.puts.length + j ≤ 1099511627776
theorem Sm.mono {s : Sp} {j i : Nat} (h : Sm s j) (hi : i ≤ j) : Sm s i := by unfold Sm at *; omega
theorem reads_putsL (s : Sp) (x : Int) : (s.reads x).2.puts = s.puts := by unfold Sp.reads; split; rfl; split <;> rfl
theorem sm_get {s : Sp} {j : Nat} {a : Int} (h : Sm s j) : Sm (s.get a).2 j := by
 unfold Sm at *; simp only [Sp.get]; split <;> simpa [reads_putsL] using h
theorem sm_put {s : Sp} {j : Nat} {a v : Int} (h : Sm s (j + 1)) : Sm (s.put a v) j := by
 unfold Sm at *; simp only [Sp.put]; split
 · simp; omega
 · simp only [reads_putsL]; omega
def w64 (x : Int) : Int := IntKind.i64.wrap x
structure Pl where
 root : Int
 frm : Int
 nodes : Int
def Pl.chk (P : Pl) : Int :=
 if P.root < 0 ∨ P.frm < 1 ∨ P.nodes < 0 ∨ 128 < P.nodes then 1 else if 4093 < P.root ∨ 4096 - 8 * P.nodes < P.frm then 1 else if 0 < P.nodes ∧ P.frm < P.root + 3 ∧ P.root < P.frm + 8 * P.nodes then 1 else 0
def Pl.Ok (P : Pl) : Prop := P.chk = 0 ∧ 0 ≤ P.root ∧ P.root ≤ 4093 ∧ 1 ≤ P.frm ∧ P.frm ≤ 4096 ∧ 0 ≤ P.nodes ∧ P.nodes ≤ 128
def Pl.node (P : Pl) (a : Int) : Bool := decide (P.frm ≤ a) && decide ((w64 (a - P.frm)).tmod 8 = 0) && decide (w64 ((w64 (a - P.frm)).tdiv 8) < P.nodes)
def Pl.idx (P : Pl) (a : Int) : Int := if P.node a then w64 ((w64 (a - P.frm)).tdiv 8) else 0
def Pl.add (P : Pl) (s : Sp) (c n : Int) : Sp := (s.get (P.root + c)).2.put (P.root + c) (w64 ((s.get (P.root + c)).1 + n))
def Pl.take (P : Pl) (s : Sp) : Int × Int × Sp :=
 if (s.get P.root).1 ≠ 0 then
   if P.node (s.get P.root).1 then
     ((s.get P.root).1, 0, P.add (((s.get P.root).2.get (s.get P.root).1).2.put P.root ((s.get P.root).2.get (s.get P.root).1).1) 2 (-1))
   else (0, 24, (s.get P.root).2)
 else
   if ((s.get P.root).2.get (P.root + 1)).1 < 0 ∨ P.nodes ≤ ((s.get P.root).2.get (P.root + 1)).1 then (0, 9, ((s.get P.root).2.get (P.root + 1)).2)
   else (P.frm + 8 * ((s.get P.root).2.get (P.root + 1)).1, 0, ((s.get P.root).2.get (P.root + 1)).2.put (P.root + 1) (((s.get P.root).2.get (P.root + 1)).1 + 1))
def Pl.give (P : Pl) (s : Sp) (a : Int) : Int × Sp :=
 if P.node a then (0, P.add (((s.get P.root).2.put a (s.get P.root).1).put P.root a) 2 1) else (1, s)
def Pl.left (P : Pl) (s : Sp) : Int × Sp :=
 (max (w64 (w64 ((s.get (P.root + 2)).1 + P.nodes) - ((s.get (P.root + 2)).2.get (P.root + 1)).1)) 0, ((s.get (P.root + 2)).2.get (P.root + 1)).2)
end Sim
namespace Go.Proofs.YtgdhcgnmffgkiaaGreatDoor
variable (w0 : World)
open Go.Vc Sim
def poolV (P : Pl) : Value := .agg #[.int .i64 P.root, .int .i64 P.frm, .int .i64 P.nodes]
theorem getS (p : Nat) (s : Sp) (x : Int) (h : Sm s 0) : FnE PP w0 [] 36 [spP p, .int .i64 x] [SpaceA p s] (.int .i64 (s.get x).1) [SpaceA p (s.get x).2] := get_spec w0 p s x h
theorem putS (p : Nat) (s : Sp) (x v : Int) (h : Sm s 0) : FnE PP w0 [] 109 [spP p, .int .i64 x, .int .i64 v] [SpaceA p s] (.tuple #[]) [SpaceA p (s.put x v)] := put_spec w0 p s x v h
theorem check_spec (P : Pl) (hP : P.Ok) : FnE PP w0 [] 268 [poolV P] [] (.int .i64 0) [] := by
 obtain ⟨h, _⟩ := hP
 refine zep en268 fn268 rfl rfl rfl ?_
 refine zyr ?_
 repeat' first|(refine zap rfl ?_;refine zaq (cs := [_, _, _]) rfl (fun nb => ?_))|refine zp ?_|refine zyn ?_
 refine zeb [0] rfl ?_
 repeat' first|refine zck ?_|refine zcm ?_|refine zcn ?_|refine zyq ?_|(refine zap rfl ?_;first|refine zaj rfl ?_|refine zak rfl ?_|refine zam rfl rfl (fun _ => ?_) (fun _ => ?_)|refine zau rfl rfl (by omega) ?_|refine zav rfl rfl (by omega) ?_|refine zaw rfl rfl (by omega) ?_|refine zbq rfl rfl ?_|refine zbs rfl rfl ?_|refine zbu rfl ?_|refine zbv rfl ?_)|refine zp ?_|refine zyl 0 rfl ?_|refine zyf rfl ?_|refine zch ?_|refine zci rfl ?_|refine zcj rfl ?_|refine zed rfl (fun _ => ?_) (fun _ => ?_)
 all_goals (refine zej rfl ?_;refine ⟨zes ?_, rfl⟩)
 all_goals (unfold Pl.chk at h; split at h <;> try split at h <;> try split at h)
 all_goals omega
theorem node_spec (P : Pl) (hP : P.Ok) (a : Int) : FnE PP w0 [] 113 [poolV P, .int .i64 a] [] (.tuple #[.int .i64 (P.idx a), .bool (P.node a)]) [] := by
 refine zep en113 fn113 rfl rfl rfl ?_
 refine zyr ?_
 repeat' first|(refine zap rfl ?_;refine zaq (cs := [_, _, _]) rfl (fun nb => ?_))|refine zp ?_|refine zyn ?_
 refine zeb [0] rfl ?_
 repeat' first|refine zck ?_|refine zcm ?_|refine zyq ?_|(refine zap rfl ?_;first|refine zev rfl rfl ?_|refine reg_rem rfl rfl (by decide) ?_|refine reg_quo rfl rfl (by decide) ?_|refine zaj rfl ?_|refine zak rfl ?_|refine zam rfl rfl (fun _ => ?_) (fun _ => ?_)|refine zah [] (check_spec w0 P hP) rfl rfl rfl zdj rfl ?_|refine zbp rfl rfl ?_|refine zbq rfl rfl ?_|refine zbt rfl rfl ?_|refine zbu rfl ?_|refine zbv rfl ?_)|refine zp ?_|refine zyl 0 rfl ?_|refine zyf rfl ?_|refine zch ?_|refine zci rfl ?_|refine zed rfl (fun _ => ?_) (fun _ => ?_)
 all_goals refine zei rfl ⟨?_, rfl⟩
 all_goals refine congrArg Value.tuple (?_ : #[Value.int .i64 _, .bool _] = #[Value.int .i64 _, .bool _])
 all_goals simp_all [Pl.idx, Pl.node, w64, ← Int.not_lt]
theorem add_spec (p : Nat) (P : Pl) (hP : P.Ok) (s : Sp) (c m : Int) (hc : 0 ≤ c ∧ c ≤ 3) (hsm : Sm s 1) : FnE PP w0 [] 269 [poolV P, spP p, .int .i64 c, .int .i64 m] [SpaceA p s] (.tuple #[]) [SpaceA p (P.add s c m)] := by
 obtain ⟨_, h1, h2, h3, h4, h5, h6⟩ := id hP
 refine zep en269 fn269 rfl rfl rfl ?_
 refine zyr ?_
 repeat' (refine zap rfl ?_;refine zaq (cs := [_, _, _]) rfl (fun nb => ?_))
 all_goals refine zyn ?_
 refine zeb [1] rfl ?_
 repeat' first|refine zyq ?_|(refine zap rfl ?_;first|refine zdu (t := 2) rfl rfl ?_|refine zah [0] (getS w0 p _ _ (by first|exact hsm.mono (by decide) | (repeat (first|refine sm_get ?_|refine sm_put ?_)); exact hsm.mono (by decide))) rfl rfl rfl zdj rfl ?_|refine zah [0] (putS w0 p _ _ _ (by first|exact hsm.mono (by decide) | (repeat (first|refine sm_get ?_|refine sm_put ?_)); exact hsm.mono (by decide))) rfl rfl rfl zdj rfl ?_|refine zau rfl rfl (by omega) ?_)|refine zp ?_|refine zyl 0 rfl ?_|refine zyf rfl ?_|refine zch ?_
 refine end_tmp0 rfl ⟨rfl, rfl⟩
end Go.Proofs.YtgdhcgnmffgkiaaGreatDoor
namespace Sim
open Go Go.Vc
def Pl.addP (P : Pl) (c n : Int) : Pg Unit := do
 let v ← Pg.gt (P.root + c)
 let _ ← Pg.pt (P.root + c) (w64 (v + n))
 pure ()
def Pl.takeP (P : Pl) : Pg (Int × Int) := do
 let first ← Pg.gt P.root
 if first ≠ 0 then
   if P.node first = true then do
     let x ← Pg.gt first
     let _ ← Pg.pt P.root x
     let _ ← P.addP 2 (-1)
     pure (first, 0)
   else pure (0, 24)
 else do
   let n ← Pg.gt (P.root + 1)
   if n < 0 ∨ P.nodes ≤ n then pure (0, 9) else do
     let _ ← Pg.pt (P.root + 1) (n + 1)
     pure (P.frm + 8 * n, 0)
def Pl.giveP (P : Pl) (a : Int) : Pg Int :=
 if P.node a = true then do
   let f ← Pg.gt P.root
   let _ ← Pg.pt a f
   let _ ← Pg.pt P.root a
   let _ ← P.addP 2 1
   pure 0
 else pure 1
def encI2 (r : Int × Int) : Value := .tuple #[.int .i64 r.1, .int .i64 r.2]
def encU (_ : Unit) : Value := .tuple #[]
theorem bd_takeP (P : Pl) : Pg.Bd 2 P.takeP := by
 intro v
 dsimp only
 refine Pg.bd_ite (Pg.bd_ite (fun _ => fun _ => trivial) trivial) (fun _ => Pg.bd_ite trivial trivial)
theorem bd_giveP (P : Pl) (a : Int) : Pg.Bd 3 (P.giveP a) := Pg.bd_ite (fun _ => fun _ => trivial) trivial
end Sim
namespace Go.Proofs.YtgdhcgnmffgkiaaGreatDoor
variable (w0 : World)
open Go.Vc Sim
theorem addG (p : Nat) (P : Pl) (hP : P.Ok) (c m : Int) (hc : 0 ≤ c ∧ c ≤ 3) : FnG w0 [] 269 [poolV P, spP p, .int .i64 c, .int .i64 m] p (P.addP c m) encU := by
 obtain ⟨_, h1, h2, h3, h4, h5, h6⟩ := id hP
 intro s hF; have hG := At.start hF; generalize Pg.run _ s = R at hG ⊢
 refine zep en269 fn269 rfl rfl rfl ?_
 refine zyr ?_
 repeat' (refine zap rfl ?_;refine zaq (cs := [_, _, _]) rfl (fun nb => ?_))
 all_goals refine zyn ?_
 refine zeb [1] rfl ?_
 repeat' first|refine zyq ?_|(refine zap rfl ?_;first|refine zdu (t := 2) rfl rfl ?_|refine zdk [0] hG (getG w0 p _) rfl rfl rfl zdj (fun x s hG => ?_)|refine zdk [0] hG (putG w0 p _ _) rfl rfl rfl zdj (fun x s hG => ?_)|refine zau rfl rfl (by omega) ?_)|refine zp ?_|refine zyl 0 rfl ?_|refine zyf rfl ?_|refine zch ?_
 rw [hG.done]
 refine end_tmp0 rfl ⟨rfl, rfl⟩
end Go.Proofs.YtgdhcgnmffgkiaaGreatDoor
