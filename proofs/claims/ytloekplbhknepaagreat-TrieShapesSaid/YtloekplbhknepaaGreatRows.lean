/-
  No cell of these rows narrows 'for every input' (looked for: loops, veiled, ifaces, maps, wideKeys, modest, calm, conditions, laid).
  DERIVED. THE GIVEN ROWS OF THIS SEAT. 6 by the template 'for every input the law returns true; each argument reads behind the call as it read before'; 0 by the template 'total and deterministic' (their statements: YtloekplbhknepaaGreatTotals.lean).
  GIVEN WITH THE SEED: the statements are not yours to turn. If you find one false, say at which input.
  Laid BY PROGRAM, IN A SANDBOX (cutbox-rows.mjs): the forced cells as the released guide's own fill.sh prints them over the translation a914f65dad70d2a8… (all of the seat's roots in one cut). By AI agents, Wed Nov 11 2026. No macro, syntax, notation, axiom, sorry.
-/
import Derived.Test.YtloekplbhknepaaGreatChecked
import GoSem.Claim
import GoSem.ClaimJoined
import GoSem.ClaimMapViews
import Derived.JoinedTies
import Derived.KernelRfl
namespace Go.Proofs.YtloekplbhknepaaGreat
/- THE CELL 'sum', in the pinned program and in every row, IS THE sha256 OF THE DUMP (.gsa) THAT YtloekplbhknepaaGreatProg.lean LOADS. Nothing in Lean hashes anything: it is a label: what it is worth is what the hold of that sum in a sandbox is worth. -/
noncomputable def Tryz.pinned : Pinned := { name := "ytloekplbhknepaagreat", sum := "a914f65dad70d2a85eef73a03b87f6a709178e76191350e0b4bfa0414d1aabd8", checked := Tryz.checked }
namespace Rows
def none {H : Type} : Left H := { results := [], args := [] }

/-- 'simulcastlaw36.TriePlays': WHATEVER THE INPUT: true; the input reads as it did. -/
def triePlaysSpec : ChangeSpec := { name := "triePlays", fn := fun _ => fun
  | [d1, d2] => { results := [.lit (.bool true)], args := [d1, d2] }
  | _ => none }
def triePlaysRow : OpenClaim := { program := "ytloekplbhknepaagreat", sum := "a914f65dad70d2a85eef73a03b87f6a709178e76191350e0b4bfa0414d1aabd8", func := "simulcast/simulcastlaw36.TriePlays", spec := "triePlays", unfollowed := true, recurses := true, apart := false }
def TriePlaysSaid : Prop := triePlaysRow.holds Tryz.pinned (OpenSpec.ofChange triePlaysSpec)

/-- ITS FALSE NEIGHBOUR: 'it returns false'. Refute it at one input. -/
def triePlaysWrong : ChangeSpec := { name := "triePlays", fn := fun _ => fun
  | [d1, d2] => { results := [.lit (.bool false)], args := [d1, d2] }
  | _ => none }
def TriePlaysWrongFalsely : Prop := triePlaysRow.holds Tryz.pinned (OpenSpec.ofChange triePlaysWrong)

/-- 'simulcastlaw36.TrieNames': WHATEVER THE INPUT: true; the input reads as it did. -/
def trieNamesSpec : ChangeSpec := { name := "trieNames", fn := fun _ => fun
  | [d1, d2, d3] => { results := [.lit (.bool true)], args := [d1, d2, d3] }
  | _ => none }
def trieNamesRow : OpenClaim := { program := "ytloekplbhknepaagreat", sum := "a914f65dad70d2a85eef73a03b87f6a709178e76191350e0b4bfa0414d1aabd8", func := "simulcast/simulcastlaw36.TrieNames", spec := "trieNames", unfollowed := true, recurses := true, apart := false }
def TrieNamesSaid : Prop := trieNamesRow.holds Tryz.pinned (OpenSpec.ofChange trieNamesSpec)

/-- ITS FALSE NEIGHBOUR: 'it returns false'. Refute it at one input. -/
def trieNamesWrong : ChangeSpec := { name := "trieNames", fn := fun _ => fun
  | [d1, d2, d3] => { results := [.lit (.bool false)], args := [d1, d2, d3] }
  | _ => none }
def TrieNamesWrongFalsely : Prop := trieNamesRow.holds Tryz.pinned (OpenSpec.ofChange trieNamesWrong)

/-- 'simulcastlaw36.TrieInts': WHATEVER THE INPUT: true; the input reads as it did. -/
def trieIntsSpec : ChangeSpec := { name := "trieInts", fn := fun _ => fun
  | [d] => { results := [.lit (.bool true)], args := [d] }
  | _ => none }
def trieIntsRow : OpenClaim := { program := "ytloekplbhknepaagreat", sum := "a914f65dad70d2a85eef73a03b87f6a709178e76191350e0b4bfa0414d1aabd8", func := "simulcast/simulcastlaw36.TrieInts", spec := "trieInts", unfollowed := true, recurses := true, apart := false }
def TrieIntsSaid : Prop := trieIntsRow.holds Tryz.pinned (OpenSpec.ofChange trieIntsSpec)

/-- ITS FALSE NEIGHBOUR: 'it returns false'. Refute it at one input. -/
def trieIntsWrong : ChangeSpec := { name := "trieInts", fn := fun _ => fun
  | [d] => { results := [.lit (.bool false)], args := [d] }
  | _ => none }
def TrieIntsWrongFalsely : Prop := trieIntsRow.holds Tryz.pinned (OpenSpec.ofChange trieIntsWrong)

/-- 'simulcastlaw36.TrieBroken': WHATEVER THE INPUT: true; the input reads as it did. -/
def trieBrokenSpec : ChangeSpec := { name := "trieBroken", fn := fun _ => fun
  | [d1, d2, d3] => { results := [.lit (.bool true)], args := [d1, d2, d3] }
  | _ => none }
def trieBrokenRow : OpenClaim := { program := "ytloekplbhknepaagreat", sum := "a914f65dad70d2a85eef73a03b87f6a709178e76191350e0b4bfa0414d1aabd8", func := "simulcast/simulcastlaw36.TrieBroken", spec := "trieBroken", unfollowed := true, recurses := true, apart := false }
def TrieBrokenSaid : Prop := trieBrokenRow.holds Tryz.pinned (OpenSpec.ofChange trieBrokenSpec)

/-- ITS FALSE NEIGHBOUR: 'it returns false'. Refute it at one input. -/
def trieBrokenWrong : ChangeSpec := { name := "trieBroken", fn := fun _ => fun
  | [d1, d2, d3] => { results := [.lit (.bool false)], args := [d1, d2, d3] }
  | _ => none }
def TrieBrokenWrongFalsely : Prop := trieBrokenRow.holds Tryz.pinned (OpenSpec.ofChange trieBrokenWrong)

/-- 'simulcastlaw36.TrieShapes': WHATEVER THE INPUT: true; the input reads as it did. -/
def trieShapesSpec : ChangeSpec := { name := "trieShapes", fn := fun _ => fun
  | [d1, d2, d3] => { results := [.lit (.bool true)], args := [d1, d2, d3] }
  | _ => none }
def trieShapesRow : OpenClaim := { program := "ytloekplbhknepaagreat", sum := "a914f65dad70d2a85eef73a03b87f6a709178e76191350e0b4bfa0414d1aabd8", func := "simulcast/simulcastlaw36.TrieShapes", spec := "trieShapes", unfollowed := true, recurses := true, apart := false }
def TrieShapesSaid : Prop := trieShapesRow.holds Tryz.pinned (OpenSpec.ofChange trieShapesSpec)

/-- ITS FALSE NEIGHBOUR: 'it returns false'. Refute it at one input. -/
def trieShapesWrong : ChangeSpec := { name := "trieShapes", fn := fun _ => fun
  | [d1, d2, d3] => { results := [.lit (.bool false)], args := [d1, d2, d3] }
  | _ => none }
def TrieShapesWrongFalsely : Prop := trieShapesRow.holds Tryz.pinned (OpenSpec.ofChange trieShapesWrong)

/-- 'simulcastlaw36.TrieEmpties': WHATEVER THE INPUT: true; the input reads as it did. -/
def trieEmptiesSpec : ChangeSpec := { name := "trieEmpties", fn := fun _ => fun
  | [d1, d2] => { results := [.lit (.bool true)], args := [d1, d2] }
  | _ => none }
def trieEmptiesRow : OpenClaim := { program := "ytloekplbhknepaagreat", sum := "a914f65dad70d2a85eef73a03b87f6a709178e76191350e0b4bfa0414d1aabd8", func := "simulcast/simulcastlaw36.TrieEmpties", spec := "trieEmpties", unfollowed := true, recurses := true, apart := false }
def TrieEmptiesSaid : Prop := trieEmptiesRow.holds Tryz.pinned (OpenSpec.ofChange trieEmptiesSpec)

/-- ITS FALSE NEIGHBOUR: 'it returns false'. Refute it at one input. -/
def trieEmptiesWrong : ChangeSpec := { name := "trieEmpties", fn := fun _ => fun
  | [d1, d2] => { results := [.lit (.bool false)], args := [d1, d2] }
  | _ => none }
def TrieEmptiesWrongFalsely : Prop := trieEmptiesRow.holds Tryz.pinned (OpenSpec.ofChange trieEmptiesWrong)

/- THE SECOND FORM. 'bulk': how many values and letters a reading holds, each counted each time it is reached (what is shared counts as often as it is met; a slice's spare places count too). A statement '..UptoSaid' is the law's where the arguments, and the package variables that the reading takes, are together of bulk at most 1048576: NARROWER than '..Said'. Prove '..Said' where nothing that the law and all that it calls make is longer than what came in: it says more and counts as full. Else prove '..UptoSaid'. A law counts once. -/
mutual
def uptoBulk {H : Type} : DataW H → Nat
  | .lit (.string bytes) => bytes.length + 1
  | .lit _ => 1
  | .nil => 1
  | .ptr d => uptoBulk d + 1
  | .slice elems spare => uptoBulkAll elems + uptoBulkAll spare + 1
  | .agg parts => uptoBulkAll parts + 1
  | .iface _ d => uptoBulk d + 1
  | .map entries => uptoBulkEntries entries + 1
  | .held _ => 1
def uptoBulkAll {H : Type} : List (DataW H) → Nat
  | [] => 0
  | d :: r => uptoBulk d + uptoBulkAll r
def uptoBulkEntries {H : Type} : List (Lit × DataW H) → Nat
  | [] => 0
  | x :: r => uptoBulkEntry x + uptoBulkEntries r
def uptoBulkEntry {H : Type} : Lit × DataW H → Nat
  | (.string bytes, d) => bytes.length + uptoBulk d + 1
  | (_, d) => uptoBulk d + 1
 end
def uptoSmall : (H : Type) → List (DataW H) → Bool := fun _ ds => decide (uptoBulkAll ds ≤ 1048576)
def OpenSpec.upto (s : _root_.Go.ChangeSpec) : _root_.Go.OpenSpec := { _root_.Go.OpenSpec.ofChange s with cond := some uptoSmall }

/-- 'simulcastlaw36.TriePlays', WHERE WHAT IT READS IS OF BULK AT MOST 1048576: true; the input reads as it did. -/
def triePlaysUptoRow : OpenClaim := { program := "ytloekplbhknepaagreat", sum := "a914f65dad70d2a85eef73a03b87f6a709178e76191350e0b4bfa0414d1aabd8", func := "simulcast/simulcastlaw36.TriePlays", spec := "triePlays", unfollowed := true, recurses := true, apart := false, narrowed := true }
def TriePlaysUptoSaid : Prop := triePlaysUptoRow.holds Tryz.pinned (OpenSpec.upto triePlaysSpec)

/-- 'simulcastlaw36.TrieNames', WHERE WHAT IT READS IS OF BULK AT MOST 1048576: true; the input reads as it did. -/
def trieNamesUptoRow : OpenClaim := { program := "ytloekplbhknepaagreat", sum := "a914f65dad70d2a85eef73a03b87f6a709178e76191350e0b4bfa0414d1aabd8", func := "simulcast/simulcastlaw36.TrieNames", spec := "trieNames", unfollowed := true, recurses := true, apart := false, narrowed := true }
def TrieNamesUptoSaid : Prop := trieNamesUptoRow.holds Tryz.pinned (OpenSpec.upto trieNamesSpec)

/-- 'simulcastlaw36.TrieInts', WHERE WHAT IT READS IS OF BULK AT MOST 1048576: true; the input reads as it did. -/
def trieIntsUptoRow : OpenClaim := { program := "ytloekplbhknepaagreat", sum := "a914f65dad70d2a85eef73a03b87f6a709178e76191350e0b4bfa0414d1aabd8", func := "simulcast/simulcastlaw36.TrieInts", spec := "trieInts", unfollowed := true, recurses := true, apart := false, narrowed := true }
def TrieIntsUptoSaid : Prop := trieIntsUptoRow.holds Tryz.pinned (OpenSpec.upto trieIntsSpec)

/-- 'simulcastlaw36.TrieBroken', WHERE WHAT IT READS IS OF BULK AT MOST 1048576: true; the input reads as it did. -/
def trieBrokenUptoRow : OpenClaim := { program := "ytloekplbhknepaagreat", sum := "a914f65dad70d2a85eef73a03b87f6a709178e76191350e0b4bfa0414d1aabd8", func := "simulcast/simulcastlaw36.TrieBroken", spec := "trieBroken", unfollowed := true, recurses := true, apart := false, narrowed := true }
def TrieBrokenUptoSaid : Prop := trieBrokenUptoRow.holds Tryz.pinned (OpenSpec.upto trieBrokenSpec)

/-- 'simulcastlaw36.TrieShapes', WHERE WHAT IT READS IS OF BULK AT MOST 1048576: true; the input reads as it did. -/
def trieShapesUptoRow : OpenClaim := { program := "ytloekplbhknepaagreat", sum := "a914f65dad70d2a85eef73a03b87f6a709178e76191350e0b4bfa0414d1aabd8", func := "simulcast/simulcastlaw36.TrieShapes", spec := "trieShapes", unfollowed := true, recurses := true, apart := false, narrowed := true }
def TrieShapesUptoSaid : Prop := trieShapesUptoRow.holds Tryz.pinned (OpenSpec.upto trieShapesSpec)

/-- 'simulcastlaw36.TrieEmpties', WHERE WHAT IT READS IS OF BULK AT MOST 1048576: true; the input reads as it did. -/
def trieEmptiesUptoRow : OpenClaim := { program := "ytloekplbhknepaagreat", sum := "a914f65dad70d2a85eef73a03b87f6a709178e76191350e0b4bfa0414d1aabd8", func := "simulcast/simulcastlaw36.TrieEmpties", spec := "trieEmpties", unfollowed := true, recurses := true, apart := false, narrowed := true }
def TrieEmptiesUptoSaid : Prop := trieEmptiesUptoRow.holds Tryz.pinned (OpenSpec.upto trieEmptiesSpec)

end Rows
end Go.Proofs.YtloekplbhknepaaGreat
