/-
  NARROWER THAN 'FOR EVERY INPUT', by the rows' own cells (each row's printed sentence says how): CatalogDoes: laid · CatalogRefuses: laid · CatalogWrites: laid · CatalogStarts: laid · CatalogLists: laid.
  DERIVED. THE GIVEN ROWS OF THIS SEAT. 5 by the template 'for every input the law returns true; each argument reads behind the call as it read before'; 0 by the template 'total and deterministic' (their statements: YtgdhcgnmffgkiaaGreatDoorTotals.lean).
  GIVEN WITH THE SEED: the statements are not yours to turn. If you find one false, say at which input.
  Laid BY PROGRAM, IN A SANDBOX (cutbox-rows.mjs): the forced cells as the released guide's own fill.sh prints them over the translation 473169b5d4515e67… (all of the seat's roots in one cut). By AI agents, Wed Nov 11 2026. No macro, syntax, notation, axiom, sorry.
-/
import Derived.Test.YtgdhcgnmffgkiaaGreatDoorChecked
import GoSem.Claim
import GoSem.ClaimJoined
import GoSem.ClaimMapViews
import Derived.JoinedTies
import Derived.KernelRfl
namespace Go.Proofs.YtgdhcgnmffgkiaaGreatDoor
/- THE CELL 'sum', in the pinned program and in every row, IS THE sha256 OF THE DUMP (.gsa) THAT YtgdhcgnmffgkiaaGreatDoorProg.lean LOADS. Nothing in Lean hashes anything: it is a label: what it is worth is what the hold of that sum in a sandbox is worth. -/
noncomputable def Tryz.pinned : Pinned := { name := "ytgdhcgnmffgkiaagreatdoor", sum := "473169b5d4515e67284b7cd7be1a18dbe8260db533804cfe7c26bd6e37b02915", checked := Tryz.checked }
namespace Rows
def none {H : Type} : Left H := { results := [], args := [] }

/- WHAT THE LISTED PACKAGE-LEVEL VARIABLES READ AS WHEN THE CALL BEGINS. Each datum BY PROGRAM (the guide's laid-datum.mjs) off the statement by which the dump's own 'gosem.cut.vars' lays the variable. In a bare row this is a premise. The card (YtgdhcgnmffgkiaaGreatDoorCards.lean) ties it to the program's text. -/
def laid_simulcast_array_powers {H : Type} : DataW H := .agg [.lit (.int .i64 1), .lit (.int .i64 8), .lit (.int .i64 64), .lit (.int .i64 512), .lit (.int .i64 4096)]

/-- 'simulcastlaw42.CatalogDoes': WHATEVER THE INPUT: true; the input reads as it did. -/
def catalogDoesSpec : ChangeSpec := { name := "catalogDoes", fn := fun _ => fun
  | [d] => { results := [.lit (.bool true)], args := [d] }
  | _ => none }
def catalogDoesRow : OpenClaim := { program := "ytgdhcgnmffgkiaagreatdoor", sum := "473169b5d4515e67284b7cd7be1a18dbe8260db533804cfe7c26bd6e37b02915", func := "simulcast/simulcastlaw42.CatalogDoes", spec := "catalogDoes", unfollowed := true, recurses := true, named := ["simulcast/array.powers"], apart := false, laid := [("simulcast/array.powers", laid_simulcast_array_powers)] }
def CatalogDoesSaid : Prop := catalogDoesRow.holds Tryz.pinned (OpenSpec.ofChange catalogDoesSpec)

/-- ITS FALSE NEIGHBOUR: 'it returns false'. Refute it at one input. -/
def catalogDoesWrong : ChangeSpec := { name := "catalogDoes", fn := fun _ => fun
  | [d] => { results := [.lit (.bool false)], args := [d] }
  | _ => none }
def CatalogDoesWrongFalsely : Prop := catalogDoesRow.holds Tryz.pinned (OpenSpec.ofChange catalogDoesWrong)

/-- 'simulcastlaw42.CatalogRefuses': WHATEVER THE INPUT: true; the input reads as it did. -/
def catalogRefusesSpec : ChangeSpec := { name := "catalogRefuses", fn := fun _ => fun
  | [d1, d2, d3] => { results := [.lit (.bool true)], args := [d1, d2, d3] }
  | _ => none }
def catalogRefusesRow : OpenClaim := { program := "ytgdhcgnmffgkiaagreatdoor", sum := "473169b5d4515e67284b7cd7be1a18dbe8260db533804cfe7c26bd6e37b02915", func := "simulcast/simulcastlaw42.CatalogRefuses", spec := "catalogRefuses", unfollowed := true, recurses := true, named := ["simulcast/array.powers"], apart := false, laid := [("simulcast/array.powers", laid_simulcast_array_powers)] }
def CatalogRefusesSaid : Prop := catalogRefusesRow.holds Tryz.pinned (OpenSpec.ofChange catalogRefusesSpec)

/-- ITS FALSE NEIGHBOUR: 'it returns false'. Refute it at one input. -/
def catalogRefusesWrong : ChangeSpec := { name := "catalogRefuses", fn := fun _ => fun
  | [d1, d2, d3] => { results := [.lit (.bool false)], args := [d1, d2, d3] }
  | _ => none }
def CatalogRefusesWrongFalsely : Prop := catalogRefusesRow.holds Tryz.pinned (OpenSpec.ofChange catalogRefusesWrong)

/-- 'simulcastlaw42.CatalogWrites': WHATEVER THE INPUT: true; the input reads as it did. -/
def catalogWritesSpec : ChangeSpec := { name := "catalogWrites", fn := fun _ => fun
  | [d1, d2] => { results := [.lit (.bool true)], args := [d1, d2] }
  | _ => none }
def catalogWritesRow : OpenClaim := { program := "ytgdhcgnmffgkiaagreatdoor", sum := "473169b5d4515e67284b7cd7be1a18dbe8260db533804cfe7c26bd6e37b02915", func := "simulcast/simulcastlaw42.CatalogWrites", spec := "catalogWrites", unfollowed := true, recurses := true, named := ["simulcast/array.powers"], apart := false, laid := [("simulcast/array.powers", laid_simulcast_array_powers)] }
def CatalogWritesSaid : Prop := catalogWritesRow.holds Tryz.pinned (OpenSpec.ofChange catalogWritesSpec)

/-- ITS FALSE NEIGHBOUR: 'it returns false'. Refute it at one input. -/
def catalogWritesWrong : ChangeSpec := { name := "catalogWrites", fn := fun _ => fun
  | [d1, d2] => { results := [.lit (.bool false)], args := [d1, d2] }
  | _ => none }
def CatalogWritesWrongFalsely : Prop := catalogWritesRow.holds Tryz.pinned (OpenSpec.ofChange catalogWritesWrong)

/-- 'simulcastlaw42.CatalogStarts': WHATEVER THE INPUT: true; the input reads as it did. -/
def catalogStartsSpec : ChangeSpec := { name := "catalogStarts", fn := fun _ => fun
  | [d1, d2, d3] => { results := [.lit (.bool true)], args := [d1, d2, d3] }
  | _ => none }
def catalogStartsRow : OpenClaim := { program := "ytgdhcgnmffgkiaagreatdoor", sum := "473169b5d4515e67284b7cd7be1a18dbe8260db533804cfe7c26bd6e37b02915", func := "simulcast/simulcastlaw42.CatalogStarts", spec := "catalogStarts", unfollowed := true, recurses := true, named := ["simulcast/array.powers"], apart := false, laid := [("simulcast/array.powers", laid_simulcast_array_powers)] }
def CatalogStartsSaid : Prop := catalogStartsRow.holds Tryz.pinned (OpenSpec.ofChange catalogStartsSpec)

/-- ITS FALSE NEIGHBOUR: 'it returns false'. Refute it at one input. -/
def catalogStartsWrong : ChangeSpec := { name := "catalogStarts", fn := fun _ => fun
  | [d1, d2, d3] => { results := [.lit (.bool false)], args := [d1, d2, d3] }
  | _ => none }
def CatalogStartsWrongFalsely : Prop := catalogStartsRow.holds Tryz.pinned (OpenSpec.ofChange catalogStartsWrong)

/-- 'simulcastlaw42.CatalogLists': WHATEVER THE INPUT: true; the input reads as it did. -/
def catalogListsSpec : ChangeSpec := { name := "catalogLists", fn := fun _ => fun
  | [d1, d2] => { results := [.lit (.bool true)], args := [d1, d2] }
  | _ => none }
def catalogListsRow : OpenClaim := { program := "ytgdhcgnmffgkiaagreatdoor", sum := "473169b5d4515e67284b7cd7be1a18dbe8260db533804cfe7c26bd6e37b02915", func := "simulcast/simulcastlaw42.CatalogLists", spec := "catalogLists", unfollowed := true, recurses := true, named := ["simulcast/array.powers"], apart := false, laid := [("simulcast/array.powers", laid_simulcast_array_powers)] }
def CatalogListsSaid : Prop := catalogListsRow.holds Tryz.pinned (OpenSpec.ofChange catalogListsSpec)

/-- ITS FALSE NEIGHBOUR: 'it returns false'. Refute it at one input. -/
def catalogListsWrong : ChangeSpec := { name := "catalogLists", fn := fun _ => fun
  | [d1, d2] => { results := [.lit (.bool false)], args := [d1, d2] }
  | _ => none }
def CatalogListsWrongFalsely : Prop := catalogListsRow.holds Tryz.pinned (OpenSpec.ofChange catalogListsWrong)

/- THE SECOND FORM. 'bulk': how many values and letters a reading holds, each counted each time it is reached (what is shared counts as often as it is met; a slice's spare places count too). A statement '..UptoSaid' is the law's where the arguments, and the package variables that the reading takes, are together of bulk at most 1048576: NARROWER than '..Said'. Prove '..Said' where nothing that the law and all that it calls make is longer than what came in: it says more and counts as full. Else prove '..UptoSaid'. A law counts once. -/
mutual
def uptoBulk {H : Type} : DataW H → Nat
  | .lit (.string bytes) => bytes.length + 1
  | .lit _ => 1
  | .nil => 1
  | .ptr d => uptoBulk d + 1
  | .slice elems spare => uptoBulkAll elems + uptoBulkAll spare + 1
  | .agg parts => uptoBulkAll parts + 1
  | .iface _ d => uptoBulk d + 1
  | .map entries => uptoBulkEntries entries + 1
  | .held _ => 1
def uptoBulkAll {H : Type} : List (DataW H) → Nat
  | [] => 0
  | d :: r => uptoBulk d + uptoBulkAll r
def uptoBulkEntries {H : Type} : List (Lit × DataW H) → Nat
  | [] => 0
  | x :: r => uptoBulkEntry x + uptoBulkEntries r
def uptoBulkEntry {H : Type} : Lit × DataW H → Nat
  | (.string bytes, d) => bytes.length + uptoBulk d + 1
  | (_, d) => uptoBulk d + 1
 end
def uptoSmall : (H : Type) → List (DataW H) → Bool := fun _ ds => decide (uptoBulkAll ds ≤ 1048576)
def OpenSpec.upto (s : _root_.Go.ChangeSpec) : _root_.Go.OpenSpec := { _root_.Go.OpenSpec.ofChange s with cond := some uptoSmall }

/-- 'simulcastlaw42.CatalogDoes', WHERE WHAT IT READS IS OF BULK AT MOST 1048576: true; the input reads as it did. -/
def catalogDoesUptoRow : OpenClaim := { program := "ytgdhcgnmffgkiaagreatdoor", sum := "473169b5d4515e67284b7cd7be1a18dbe8260db533804cfe7c26bd6e37b02915", func := "simulcast/simulcastlaw42.CatalogDoes", spec := "catalogDoes", unfollowed := true, recurses := true, named := ["simulcast/array.powers"], apart := false, laid := [("simulcast/array.powers", laid_simulcast_array_powers)], narrowed := true }
def CatalogDoesUptoSaid : Prop := catalogDoesUptoRow.holds Tryz.pinned (OpenSpec.upto catalogDoesSpec)

/-- 'simulcastlaw42.CatalogRefuses', WHERE WHAT IT READS IS OF BULK AT MOST 1048576: true; the input reads as it did. -/
def catalogRefusesUptoRow : OpenClaim := { program := "ytgdhcgnmffgkiaagreatdoor", sum := "473169b5d4515e67284b7cd7be1a18dbe8260db533804cfe7c26bd6e37b02915", func := "simulcast/simulcastlaw42.CatalogRefuses", spec := "catalogRefuses", unfollowed := true, recurses := true, named := ["simulcast/array.powers"], apart := false, laid := [("simulcast/array.powers", laid_simulcast_array_powers)], narrowed := true }
def CatalogRefusesUptoSaid : Prop := catalogRefusesUptoRow.holds Tryz.pinned (OpenSpec.upto catalogRefusesSpec)

/-- 'simulcastlaw42.CatalogWrites', WHERE WHAT IT READS IS OF BULK AT MOST 1048576: true; the input reads as it did. -/
def catalogWritesUptoRow : OpenClaim := { program := "ytgdhcgnmffgkiaagreatdoor", sum := "473169b5d4515e67284b7cd7be1a18dbe8260db533804cfe7c26bd6e37b02915", func := "simulcast/simulcastlaw42.CatalogWrites", spec := "catalogWrites", unfollowed := true, recurses := true, named := ["simulcast/array.powers"], apart := false, laid := [("simulcast/array.powers", laid_simulcast_array_powers)], narrowed := true }
def CatalogWritesUptoSaid : Prop := catalogWritesUptoRow.holds Tryz.pinned (OpenSpec.upto catalogWritesSpec)

/-- 'simulcastlaw42.CatalogStarts', WHERE WHAT IT READS IS OF BULK AT MOST 1048576: true; the input reads as it did. -/
def catalogStartsUptoRow : OpenClaim := { program := "ytgdhcgnmffgkiaagreatdoor", sum := "473169b5d4515e67284b7cd7be1a18dbe8260db533804cfe7c26bd6e37b02915", func := "simulcast/simulcastlaw42.CatalogStarts", spec := "catalogStarts", unfollowed := true, recurses := true, named := ["simulcast/array.powers"], apart := false, laid := [("simulcast/array.powers", laid_simulcast_array_powers)], narrowed := true }
def CatalogStartsUptoSaid : Prop := catalogStartsUptoRow.holds Tryz.pinned (OpenSpec.upto catalogStartsSpec)

/-- 'simulcastlaw42.CatalogLists', WHERE WHAT IT READS IS OF BULK AT MOST 1048576: true; the input reads as it did. -/
def catalogListsUptoRow : OpenClaim := { program := "ytgdhcgnmffgkiaagreatdoor", sum := "473169b5d4515e67284b7cd7be1a18dbe8260db533804cfe7c26bd6e37b02915", func := "simulcast/simulcastlaw42.CatalogLists", spec := "catalogLists", unfollowed := true, recurses := true, named := ["simulcast/array.powers"], apart := false, laid := [("simulcast/array.powers", laid_simulcast_array_powers)], narrowed := true }
def CatalogListsUptoSaid : Prop := catalogListsUptoRow.holds Tryz.pinned (OpenSpec.upto catalogListsSpec)

end Rows
end Go.Proofs.YtgdhcgnmffgkiaaGreatDoor
