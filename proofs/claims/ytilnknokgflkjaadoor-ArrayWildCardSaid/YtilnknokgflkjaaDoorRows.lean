/-
  NARROWER THAN 'FOR EVERY INPUT', by the rows' own cells (each row's printed sentence says how): ArrayDrains: laid · ArrayPlays: laid · ArraySwaps: laid · ArrayWild: laid.
  DERIVED. THE GIVEN ROWS OF THIS SEAT. 4 by the template 'for every input the law returns true; each argument reads behind the call as it read before'; 0 by the template 'total and deterministic' (their statements: YtilnknokgflkjaaDoorTotals.lean).
  GIVEN WITH THE SEED: the statements are not yours to turn. If you find one false, say at which input.
  Laid BY PROGRAM, IN A SANDBOX (cutbox-rows.mjs): the forced cells as the released guide's own fill.sh prints them over the translation 39bfd7c7869fbc7d… (all of the seat's roots in one cut). By AI agents, Wed Nov 11 2026. No macro, syntax, notation, axiom, sorry.
-/
import Derived.Test.YtilnknokgflkjaaDoorChecked
import GoSem.Claim
import GoSem.ClaimJoined
import GoSem.ClaimMapViews
import Derived.JoinedTies
import Derived.KernelRfl
namespace Go.Proofs.YtilnknokgflkjaaDoor
/- THE CELL 'sum', in the pinned program and in every row, IS THE sha256 OF THE DUMP (.gsa) THAT YtilnknokgflkjaaDoorProg.lean LOADS. Nothing in Lean hashes anything: it is a label: what it is worth is what the hold of that sum in a sandbox is worth. -/
noncomputable def Tryd.pinned : Pinned := { name := "ytilnknokgflkjaadoor", sum := "39bfd7c7869fbc7dbfc6ea6d5f5befeafb2d8c18b13b8af035894ac85bcd31b8", checked := Tryd.checked }
namespace Rows
def none {H : Type} : Left H := { results := [], args := [] }

/- WHAT THE LISTED PACKAGE-LEVEL VARIABLES READ AS WHEN THE CALL BEGINS. Each datum BY PROGRAM (the guide's laid-datum.mjs) off the statement by which the dump's own 'gosem.cut.vars' lays the variable. In a bare row this is a premise. The card (YtilnknokgflkjaaDoorCards.lean) ties it to the program's text. -/
def laid_simulcast_array_powers {H : Type} : DataW H := .agg [.lit (.int .i64 1), .lit (.int .i64 8), .lit (.int .i64 64), .lit (.int .i64 512), .lit (.int .i64 4096)]

/-- 'simulcastlaw39.ArrayDrains': WHATEVER THE INPUT: true; the input reads as it did. -/
def arrayDrainsSpec : ChangeSpec := { name := "arrayDrains", fn := fun _ => fun
  | [d1, d2] => { results := [.lit (.bool true)], args := [d1, d2] }
  | _ => none }
def arrayDrainsRow : OpenClaim := { program := "ytilnknokgflkjaadoor", sum := "39bfd7c7869fbc7dbfc6ea6d5f5befeafb2d8c18b13b8af035894ac85bcd31b8", func := "simulcast/simulcastlaw39.ArrayDrains", spec := "arrayDrains", unfollowed := true, recurses := true, named := ["simulcast/array.powers"], apart := false, laid := [("simulcast/array.powers", laid_simulcast_array_powers)] }
def ArrayDrainsSaid : Prop := arrayDrainsRow.holds Tryd.pinned (OpenSpec.ofChange arrayDrainsSpec)

/-- ITS FALSE NEIGHBOUR: 'it returns false'. Refute it at one input. -/
def arrayDrainsWrong : ChangeSpec := { name := "arrayDrains", fn := fun _ => fun
  | [d1, d2] => { results := [.lit (.bool false)], args := [d1, d2] }
  | _ => none }
def ArrayDrainsWrongFalsely : Prop := arrayDrainsRow.holds Tryd.pinned (OpenSpec.ofChange arrayDrainsWrong)

/-- 'simulcastlaw39.ArrayPlays': WHATEVER THE INPUT: true; the input reads as it did. -/
def arrayPlaysSpec : ChangeSpec := { name := "arrayPlays", fn := fun _ => fun
  | [d1, d2] => { results := [.lit (.bool true)], args := [d1, d2] }
  | _ => none }
def arrayPlaysRow : OpenClaim := { program := "ytilnknokgflkjaadoor", sum := "39bfd7c7869fbc7dbfc6ea6d5f5befeafb2d8c18b13b8af035894ac85bcd31b8", func := "simulcast/simulcastlaw39.ArrayPlays", spec := "arrayPlays", unfollowed := true, recurses := true, named := ["simulcast/array.powers"], apart := false, laid := [("simulcast/array.powers", laid_simulcast_array_powers)] }
def ArrayPlaysSaid : Prop := arrayPlaysRow.holds Tryd.pinned (OpenSpec.ofChange arrayPlaysSpec)

/-- ITS FALSE NEIGHBOUR: 'it returns false'. Refute it at one input. -/
def arrayPlaysWrong : ChangeSpec := { name := "arrayPlays", fn := fun _ => fun
  | [d1, d2] => { results := [.lit (.bool false)], args := [d1, d2] }
  | _ => none }
def ArrayPlaysWrongFalsely : Prop := arrayPlaysRow.holds Tryd.pinned (OpenSpec.ofChange arrayPlaysWrong)

/-- 'simulcastlaw39.ArraySwaps': WHATEVER THE INPUT: true; the input reads as it did. -/
def arraySwapsSpec : ChangeSpec := { name := "arraySwaps", fn := fun _ => fun
  | [d1, d2, d3] => { results := [.lit (.bool true)], args := [d1, d2, d3] }
  | _ => none }
def arraySwapsRow : OpenClaim := { program := "ytilnknokgflkjaadoor", sum := "39bfd7c7869fbc7dbfc6ea6d5f5befeafb2d8c18b13b8af035894ac85bcd31b8", func := "simulcast/simulcastlaw39.ArraySwaps", spec := "arraySwaps", unfollowed := true, recurses := true, named := ["simulcast/array.powers"], apart := false, laid := [("simulcast/array.powers", laid_simulcast_array_powers)] }
def ArraySwapsSaid : Prop := arraySwapsRow.holds Tryd.pinned (OpenSpec.ofChange arraySwapsSpec)

/-- ITS FALSE NEIGHBOUR: 'it returns false'. Refute it at one input. -/
def arraySwapsWrong : ChangeSpec := { name := "arraySwaps", fn := fun _ => fun
  | [d1, d2, d3] => { results := [.lit (.bool false)], args := [d1, d2, d3] }
  | _ => none }
def ArraySwapsWrongFalsely : Prop := arraySwapsRow.holds Tryd.pinned (OpenSpec.ofChange arraySwapsWrong)

/-- 'simulcastlaw39.ArrayWild': WHATEVER THE INPUT: true; the input reads as it did. -/
def arrayWildSpec : ChangeSpec := { name := "arrayWild", fn := fun _ => fun
  | [d1, d2, d3] => { results := [.lit (.bool true)], args := [d1, d2, d3] }
  | _ => none }
def arrayWildRow : OpenClaim := { program := "ytilnknokgflkjaadoor", sum := "39bfd7c7869fbc7dbfc6ea6d5f5befeafb2d8c18b13b8af035894ac85bcd31b8", func := "simulcast/simulcastlaw39.ArrayWild", spec := "arrayWild", unfollowed := true, recurses := true, named := ["simulcast/array.powers"], apart := false, laid := [("simulcast/array.powers", laid_simulcast_array_powers)] }
def ArrayWildSaid : Prop := arrayWildRow.holds Tryd.pinned (OpenSpec.ofChange arrayWildSpec)

/-- ITS FALSE NEIGHBOUR: 'it returns false'. Refute it at one input. -/
def arrayWildWrong : ChangeSpec := { name := "arrayWild", fn := fun _ => fun
  | [d1, d2, d3] => { results := [.lit (.bool false)], args := [d1, d2, d3] }
  | _ => none }
def ArrayWildWrongFalsely : Prop := arrayWildRow.holds Tryd.pinned (OpenSpec.ofChange arrayWildWrong)

/- THE SECOND FORM. 'bulk': how many values and letters a reading holds, each counted each time it is reached (what is shared counts as often as it is met; a slice's spare places count too). A statement '..UptoSaid' is the law's where the arguments, and the package variables that the reading takes, are together of bulk at most 1048576: NARROWER than '..Said'. Prove '..Said' where nothing that the law and all that it calls make is longer than what came in: it says more and counts as full. Else prove '..UptoSaid'. A law counts once. -/
mutual
def uptoBulk {H : Type} : DataW H → Nat
  | .lit (.string bytes) => bytes.length + 1
  | .lit _ => 1
  | .nil => 1
  | .ptr d => uptoBulk d + 1
  | .slice elems spare => uptoBulkAll elems + uptoBulkAll spare + 1
  | .agg parts => uptoBulkAll parts + 1
  | .iface _ d => uptoBulk d + 1
  | .map entries => uptoBulkEntries entries + 1
  | .held _ => 1
def uptoBulkAll {H : Type} : List (DataW H) → Nat
  | [] => 0
  | d :: r => uptoBulk d + uptoBulkAll r
def uptoBulkEntries {H : Type} : List (Lit × DataW H) → Nat
  | [] => 0
  | x :: r => uptoBulkEntry x + uptoBulkEntries r
def uptoBulkEntry {H : Type} : Lit × DataW H → Nat
  | (.string bytes, d) => bytes.length + uptoBulk d + 1
  | (_, d) => uptoBulk d + 1
 end
def uptoSmall : (H : Type) → List (DataW H) → Bool := fun _ ds => decide (uptoBulkAll ds ≤ 1048576)
def OpenSpec.upto (s : _root_.Go.ChangeSpec) : _root_.Go.OpenSpec := { _root_.Go.OpenSpec.ofChange s with cond := some uptoSmall }

/-- 'simulcastlaw39.ArrayDrains', WHERE WHAT IT READS IS OF BULK AT MOST 1048576: true; the input reads as it did. -/
def arrayDrainsUptoRow : OpenClaim := { program := "ytilnknokgflkjaadoor", sum := "39bfd7c7869fbc7dbfc6ea6d5f5befeafb2d8c18b13b8af035894ac85bcd31b8", func := "simulcast/simulcastlaw39.ArrayDrains", spec := "arrayDrains", unfollowed := true, recurses := true, named := ["simulcast/array.powers"], apart := false, laid := [("simulcast/array.powers", laid_simulcast_array_powers)], narrowed := true }
def ArrayDrainsUptoSaid : Prop := arrayDrainsUptoRow.holds Tryd.pinned (OpenSpec.upto arrayDrainsSpec)

/-- 'simulcastlaw39.ArrayPlays', WHERE WHAT IT READS IS OF BULK AT MOST 1048576: true; the input reads as it did. -/
def arrayPlaysUptoRow : OpenClaim := { program := "ytilnknokgflkjaadoor", sum := "39bfd7c7869fbc7dbfc6ea6d5f5befeafb2d8c18b13b8af035894ac85bcd31b8", func := "simulcast/simulcastlaw39.ArrayPlays", spec := "arrayPlays", unfollowed := true, recurses := true, named := ["simulcast/array.powers"], apart := false, laid := [("simulcast/array.powers", laid_simulcast_array_powers)], narrowed := true }
def ArrayPlaysUptoSaid : Prop := arrayPlaysUptoRow.holds Tryd.pinned (OpenSpec.upto arrayPlaysSpec)

/-- 'simulcastlaw39.ArraySwaps', WHERE WHAT IT READS IS OF BULK AT MOST 1048576: true; the input reads as it did. -/
def arraySwapsUptoRow : OpenClaim := { program := "ytilnknokgflkjaadoor", sum := "39bfd7c7869fbc7dbfc6ea6d5f5befeafb2d8c18b13b8af035894ac85bcd31b8", func := "simulcast/simulcastlaw39.ArraySwaps", spec := "arraySwaps", unfollowed := true, recurses := true, named := ["simulcast/array.powers"], apart := false, laid := [("simulcast/array.powers", laid_simulcast_array_powers)], narrowed := true }
def ArraySwapsUptoSaid : Prop := arraySwapsUptoRow.holds Tryd.pinned (OpenSpec.upto arraySwapsSpec)

/-- 'simulcastlaw39.ArrayWild', WHERE WHAT IT READS IS OF BULK AT MOST 1048576: true; the input reads as it did. -/
def arrayWildUptoRow : OpenClaim := { program := "ytilnknokgflkjaadoor", sum := "39bfd7c7869fbc7dbfc6ea6d5f5befeafb2d8c18b13b8af035894ac85bcd31b8", func := "simulcast/simulcastlaw39.ArrayWild", spec := "arrayWild", unfollowed := true, recurses := true, named := ["simulcast/array.powers"], apart := false, laid := [("simulcast/array.powers", laid_simulcast_array_powers)], narrowed := true }
def ArrayWildUptoSaid : Prop := arrayWildUptoRow.holds Tryd.pinned (OpenSpec.upto arrayWildSpec)

end Rows
end Go.Proofs.YtilnknokgflkjaaDoor
