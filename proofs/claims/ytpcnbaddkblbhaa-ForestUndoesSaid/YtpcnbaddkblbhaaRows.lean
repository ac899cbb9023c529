/-
  No cell of these rows narrows 'for every input' (looked for: loops, veiled, ifaces, maps, wideKeys, modest, calm, conditions, laid).
  DERIVED. THE GIVEN ROWS OF THIS SEAT. 6 by the template 'for every input the law returns true; each argument reads behind the call as it read before'; 0 by the template 'total and deterministic' (their statements: YtpcnbaddkblbhaaTotals.lean).
  GIVEN WITH THE SEED: the statements are not yours to turn. If you find one false, say at which input.
  Laid BY PROGRAM, IN A SANDBOX (cutbox-rows.mjs): the forced cells as the released guide's own fill.sh prints them over the translation 1e44aa8f1e2d4e71… (all of the seat's roots in one cut). By AI agents, Wed Nov 11 2026. No macro, syntax, notation, axiom, sorry.
-/
import Derived.Test.YtpcnbaddkblbhaaChecked
import GoSem.Claim
import GoSem.ClaimJoined
import GoSem.ClaimMapViews
import Derived.JoinedTies
import Derived.KernelRfl
namespace Go.Proofs.Ytpcnbaddkblbhaa
/- THE CELL 'sum', in the pinned program and in every row, IS THE sha256 OF THE DUMP (.gsa) THAT YtpcnbaddkblbhaaProg.lean LOADS. Nothing in Lean hashes anything: it is a label: what it is worth is what the hold of that sum in a sandbox is worth. -/
noncomputable def Try.pinned : Pinned := { name := "ytpcnbaddkblbhaa", sum := "1e44aa8f1e2d4e7146058aadc8c43bab6b6b37f02e6aaf5d078010275fd42f68", checked := Try.checked }
namespace Rows
def none {H : Type} : Left H := { results := [], args := [] }

/-- 'simulcastlaw41.ForestPlays': WHATEVER THE INPUT: true; the input reads as it did. -/
def forestPlaysSpec : ChangeSpec := { name := "forestPlays", fn := fun _ => fun
  | [d1, d2] => { results := [.lit (.bool true)], args := [d1, d2] }
  | _ => none }
def forestPlaysRow : OpenClaim := { program := "ytpcnbaddkblbhaa", sum := "1e44aa8f1e2d4e7146058aadc8c43bab6b6b37f02e6aaf5d078010275fd42f68", func := "simulcast/simulcastlaw41.ForestPlays", spec := "forestPlays", unfollowed := true, recurses := true, apart := false }
def ForestPlaysSaid : Prop := forestPlaysRow.holds Try.pinned (OpenSpec.ofChange forestPlaysSpec)

/-- ITS FALSE NEIGHBOUR: 'it returns false'. Refute it at one input. -/
def forestPlaysWrong : ChangeSpec := { name := "forestPlays", fn := fun _ => fun
  | [d1, d2] => { results := [.lit (.bool false)], args := [d1, d2] }
  | _ => none }
def ForestPlaysWrongFalsely : Prop := forestPlaysRow.holds Try.pinned (OpenSpec.ofChange forestPlaysWrong)

/-- 'simulcastlaw41.ForestUndoes': WHATEVER THE INPUT: true; the input reads as it did. -/
def forestUndoesSpec : ChangeSpec := { name := "forestUndoes", fn := fun _ => fun
  | [d1, d2, d3] => { results := [.lit (.bool true)], args := [d1, d2, d3] }
  | _ => none }
def forestUndoesRow : OpenClaim := { program := "ytpcnbaddkblbhaa", sum := "1e44aa8f1e2d4e7146058aadc8c43bab6b6b37f02e6aaf5d078010275fd42f68", func := "simulcast/simulcastlaw41.ForestUndoes", spec := "forestUndoes", unfollowed := true, recurses := true, apart := false }
def ForestUndoesSaid : Prop := forestUndoesRow.holds Try.pinned (OpenSpec.ofChange forestUndoesSpec)

/-- ITS FALSE NEIGHBOUR: 'it returns false'. Refute it at one input. -/
def forestUndoesWrong : ChangeSpec := { name := "forestUndoes", fn := fun _ => fun
  | [d1, d2, d3] => { results := [.lit (.bool false)], args := [d1, d2, d3] }
  | _ => none }
def ForestUndoesWrongFalsely : Prop := forestUndoesRow.holds Try.pinned (OpenSpec.ofChange forestUndoesWrong)

/-- 'simulcastlaw41.ForestSets': WHATEVER THE INPUT: true; the input reads as it did. -/
def forestSetsSpec : ChangeSpec := { name := "forestSets", fn := fun _ => fun
  | [d1, d2] => { results := [.lit (.bool true)], args := [d1, d2] }
  | _ => none }
def forestSetsRow : OpenClaim := { program := "ytpcnbaddkblbhaa", sum := "1e44aa8f1e2d4e7146058aadc8c43bab6b6b37f02e6aaf5d078010275fd42f68", func := "simulcast/simulcastlaw41.ForestSets", spec := "forestSets", unfollowed := true, recurses := true, apart := false }
def ForestSetsSaid : Prop := forestSetsRow.holds Try.pinned (OpenSpec.ofChange forestSetsSpec)

/-- ITS FALSE NEIGHBOUR: 'it returns false'. Refute it at one input. -/
def forestSetsWrong : ChangeSpec := { name := "forestSets", fn := fun _ => fun
  | [d1, d2] => { results := [.lit (.bool false)], args := [d1, d2] }
  | _ => none }
def ForestSetsWrongFalsely : Prop := forestSetsRow.holds Try.pinned (OpenSpec.ofChange forestSetsWrong)

/-- 'simulcastlaw41.ForestAsks': WHATEVER THE INPUT: true; the input reads as it did. -/
def forestAsksSpec : ChangeSpec := { name := "forestAsks", fn := fun _ => fun
  | [d1, d2, d3] => { results := [.lit (.bool true)], args := [d1, d2, d3] }
  | _ => none }
def forestAsksRow : OpenClaim := { program := "ytpcnbaddkblbhaa", sum := "1e44aa8f1e2d4e7146058aadc8c43bab6b6b37f02e6aaf5d078010275fd42f68", func := "simulcast/simulcastlaw41.ForestAsks", spec := "forestAsks", unfollowed := true, recurses := true, apart := false }
def ForestAsksSaid : Prop := forestAsksRow.holds Try.pinned (OpenSpec.ofChange forestAsksSpec)

/-- ITS FALSE NEIGHBOUR: 'it returns false'. Refute it at one input. -/
def forestAsksWrong : ChangeSpec := { name := "forestAsks", fn := fun _ => fun
  | [d1, d2, d3] => { results := [.lit (.bool false)], args := [d1, d2, d3] }
  | _ => none }
def ForestAsksWrongFalsely : Prop := forestAsksRow.holds Try.pinned (OpenSpec.ofChange forestAsksWrong)

/-- 'simulcastlaw41.ForestFull': WHATEVER THE INPUT: true; the input reads as it did. -/
def forestFullSpec : ChangeSpec := { name := "forestFull", fn := fun _ => fun
  | [d] => { results := [.lit (.bool true)], args := [d] }
  | _ => none }
def forestFullRow : OpenClaim := { program := "ytpcnbaddkblbhaa", sum := "1e44aa8f1e2d4e7146058aadc8c43bab6b6b37f02e6aaf5d078010275fd42f68", func := "simulcast/simulcastlaw41.ForestFull", spec := "forestFull", unfollowed := true, recurses := true, apart := false }
def ForestFullSaid : Prop := forestFullRow.holds Try.pinned (OpenSpec.ofChange forestFullSpec)

/-- ITS FALSE NEIGHBOUR: 'it returns false'. Refute it at one input. -/
def forestFullWrong : ChangeSpec := { name := "forestFull", fn := fun _ => fun
  | [d] => { results := [.lit (.bool false)], args := [d] }
  | _ => none }
def ForestFullWrongFalsely : Prop := forestFullRow.holds Try.pinned (OpenSpec.ofChange forestFullWrong)

/-- 'simulcastlaw41.ForestBroken': WHATEVER THE INPUT: true; the input reads as it did. -/
def forestBrokenSpec : ChangeSpec := { name := "forestBroken", fn := fun _ => fun
  | [d1, d2, d3] => { results := [.lit (.bool true)], args := [d1, d2, d3] }
  | _ => none }
def forestBrokenRow : OpenClaim := { program := "ytpcnbaddkblbhaa", sum := "1e44aa8f1e2d4e7146058aadc8c43bab6b6b37f02e6aaf5d078010275fd42f68", func := "simulcast/simulcastlaw41.ForestBroken", spec := "forestBroken", unfollowed := true, recurses := true, apart := false }
def ForestBrokenSaid : Prop := forestBrokenRow.holds Try.pinned (OpenSpec.ofChange forestBrokenSpec)

/-- ITS FALSE NEIGHBOUR: 'it returns false'. Refute it at one input. -/
def forestBrokenWrong : ChangeSpec := { name := "forestBroken", fn := fun _ => fun
  | [d1, d2, d3] => { results := [.lit (.bool false)], args := [d1, d2, d3] }
  | _ => none }
def ForestBrokenWrongFalsely : Prop := forestBrokenRow.holds Try.pinned (OpenSpec.ofChange forestBrokenWrong)

/- THE SECOND FORM. 'bulk': how many values and letters a reading holds, each counted each time it is reached (what is shared counts as often as it is met; a slice's spare places count too). A statement '..UptoSaid' is the law's where the arguments, and the package variables that the reading takes, are together of bulk at most 1048576: NARROWER than '..Said'. Prove '..Said' where nothing that the law and all that it calls make is longer than what came in: it says more and counts as full. Else prove '..UptoSaid'. A law counts once. -/
mutual
def uptoBulk {H : Type} : DataW H → Nat
  | .lit (.string bytes) => bytes.length + 1
  | .lit _ => 1
  | .nil => 1
  | .ptr d => uptoBulk d + 1
  | .slice elems spare => uptoBulkAll elems + uptoBulkAll spare + 1
  | .agg parts => uptoBulkAll parts + 1
  | .iface _ d => uptoBulk d + 1
  | .map entries => uptoBulkEntries entries + 1
  | .held _ => 1
def uptoBulkAll {H : Type} : List (DataW H) → Nat
  | [] => 0
  | d :: r => uptoBulk d + uptoBulkAll r
def uptoBulkEntries {H : Type} : List (Lit × DataW H) → Nat
  | [] => 0
  | x :: r => uptoBulkEntry x + uptoBulkEntries r
def uptoBulkEntry {H : Type} : Lit × DataW H → Nat
  | (.string bytes, d) => bytes.length + uptoBulk d + 1
  | (_, d) => uptoBulk d + 1
 end
def uptoSmall : (H : Type) → List (DataW H) → Bool := fun _ ds => decide (uptoBulkAll ds ≤ 1048576)
def OpenSpec.upto (s : _root_.Go.ChangeSpec) : _root_.Go.OpenSpec := { _root_.Go.OpenSpec.ofChange s with cond := some uptoSmall }

/-- 'simulcastlaw41.ForestPlays', WHERE WHAT IT READS IS OF BULK AT MOST 1048576: true; the input reads as it did. -/
def forestPlaysUptoRow : OpenClaim := { program := "ytpcnbaddkblbhaa", sum := "1e44aa8f1e2d4e7146058aadc8c43bab6b6b37f02e6aaf5d078010275fd42f68", func := "simulcast/simulcastlaw41.ForestPlays", spec := "forestPlays", unfollowed := true, recurses := true, apart := false, narrowed := true }
def ForestPlaysUptoSaid : Prop := forestPlaysUptoRow.holds Try.pinned (OpenSpec.upto forestPlaysSpec)

/-- 'simulcastlaw41.ForestUndoes', WHERE WHAT IT READS IS OF BULK AT MOST 1048576: true; the input reads as it did. -/
def forestUndoesUptoRow : OpenClaim := { program := "ytpcnbaddkblbhaa", sum := "1e44aa8f1e2d4e7146058aadc8c43bab6b6b37f02e6aaf5d078010275fd42f68", func := "simulcast/simulcastlaw41.ForestUndoes", spec := "forestUndoes", unfollowed := true, recurses := true, apart := false, narrowed := true }
def ForestUndoesUptoSaid : Prop := forestUndoesUptoRow.holds Try.pinned (OpenSpec.upto forestUndoesSpec)

/-- 'simulcastlaw41.ForestSets', WHERE WHAT IT READS IS OF BULK AT MOST 1048576: true; the input reads as it did. -/
def forestSetsUptoRow : OpenClaim := { program := "ytpcnbaddkblbhaa", sum := "1e44aa8f1e2d4e7146058aadc8c43bab6b6b37f02e6aaf5d078010275fd42f68", func := "simulcast/simulcastlaw41.ForestSets", spec := "forestSets", unfollowed := true, recurses := true, apart := false, narrowed := true }
def ForestSetsUptoSaid : Prop := forestSetsUptoRow.holds Try.pinned (OpenSpec.upto forestSetsSpec)

/-- 'simulcastlaw41.ForestAsks', WHERE WHAT IT READS IS OF BULK AT MOST 1048576: true; the input reads as it did. -/
def forestAsksUptoRow : OpenClaim := { program := "ytpcnbaddkblbhaa", sum := "1e44aa8f1e2d4e7146058aadc8c43bab6b6b37f02e6aaf5d078010275fd42f68", func := "simulcast/simulcastlaw41.ForestAsks", spec := "forestAsks", unfollowed := true, recurses := true, apart := false, narrowed := true }
def ForestAsksUptoSaid : Prop := forestAsksUptoRow.holds Try.pinned (OpenSpec.upto forestAsksSpec)

/-- 'simulcastlaw41.ForestFull', WHERE WHAT IT READS IS OF BULK AT MOST 1048576: true; the input reads as it did. -/
def forestFullUptoRow : OpenClaim := { program := "ytpcnbaddkblbhaa", sum := "1e44aa8f1e2d4e7146058aadc8c43bab6b6b37f02e6aaf5d078010275fd42f68", func := "simulcast/simulcastlaw41.ForestFull", spec := "forestFull", unfollowed := true, recurses := true, apart := false, narrowed := true }
def ForestFullUptoSaid : Prop := forestFullUptoRow.holds Try.pinned (OpenSpec.upto forestFullSpec)

/-- 'simulcastlaw41.ForestBroken', WHERE WHAT IT READS IS OF BULK AT MOST 1048576: true; the input reads as it did. -/
def forestBrokenUptoRow : OpenClaim := { program := "ytpcnbaddkblbhaa", sum := "1e44aa8f1e2d4e7146058aadc8c43bab6b6b37f02e6aaf5d078010275fd42f68", func := "simulcast/simulcastlaw41.ForestBroken", spec := "forestBroken", unfollowed := true, recurses := true, apart := false, narrowed := true }
def ForestBrokenUptoSaid : Prop := forestBrokenUptoRow.holds Try.pinned (OpenSpec.upto forestBrokenSpec)

end Rows
end Go.Proofs.Ytpcnbaddkblbhaa
