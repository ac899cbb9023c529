/-
  NARROWER THAN 'FOR EVERY INPUT', by the rows' own cells (each row's printed sentence says how): EffectsOf: loops, laid.
  DERIVED. THE GIVEN ROWS OF THIS SEAT. 1 by the template 'for every input the law returns true; each argument reads behind the call as it read before'; 0 by the template 'total and deterministic' (their statements: YtagmagnkigjggaaGreatDoorTotals.lean).
  GIVEN WITH THE SEED: the statements are not yours to turn. If you find one false, say at which input.
  Laid BY PROGRAM, IN A SANDBOX (cutbox-rows.mjs): the forced cells as the released guide's own fill.sh prints them over the translation 56044b5a52b02da5… (all of the seat's roots in one cut). By AI agents, Wed Nov 11 2026. No macro, syntax, notation, axiom, sorry.
-/
import Derived.Test.YtagmagnkigjggaaGreatDoorChecked
import GoSem.Claim
import GoSem.ClaimJoined
import GoSem.ClaimMapViews
import Derived.JoinedTies
import Derived.KernelRfl
namespace Go.Proofs.YtagmagnkigjggaaGreatDoor
/- THE CELL 'sum', in the pinned program and in every row, IS THE sha256 OF THE DUMP (.gsa) THAT YtagmagnkigjggaaGreatDoorProg.lean LOADS. Nothing in Lean hashes anything: it is a label: what it is worth is what the hold of that sum in a sandbox is worth. -/
noncomputable def Tryz.pinned : Pinned := { name := "ytagmagnkigjggaagreatdoor", sum := "56044b5a52b02da5c0078ea117c0a99417b01aedd0745ecacf110ed4346a9bab", checked := Tryz.checked }
namespace Rows
def none {H : Type} : Left H := { results := [], args := [] }

/- WHAT THE LISTED PACKAGE-LEVEL VARIABLES READ AS WHEN THE CALL BEGINS. Each datum BY PROGRAM (the guide's laid-datum.mjs) off the statement by which the dump's own 'gosem.cut.vars' lays the variable. In a bare row this is a premise. The card (YtagmagnkigjggaaGreatDoorCards.lean) ties it to the program's text. -/
def laid_simulcast_lexer_keywords {H : Type} : DataW H := .agg [.lit (.string [97, 98, 111, 114, 116]), .lit (.string [97, 110, 100]), .lit (.string [101, 108, 115, 101]), .lit (.string [102, 97, 108, 115, 101]), .lit (.string [104, 111, 115, 116]), .lit (.string [105, 102]), .lit (.string [108, 101, 116]), .lit (.string [110, 111, 116]), .lit (.string [111, 112]), .lit (.string [111, 114]), .lit (.string [114, 101, 112, 101, 97, 116]), .lit (.string [114, 101, 116, 117, 114, 110]), .lit (.string [115, 116, 111, 114, 101]), .lit (.string [116, 114, 117, 101])]
def laid_simulcast_array_powers {H : Type} : DataW H := .agg [.lit (.int .i64 1), .lit (.int .i64 8), .lit (.int .i64 64), .lit (.int .i64 512), .lit (.int .i64 4096)]

/-- 'simulcastlaw47.EffectsOf': WHATEVER THE INPUT: true; the input reads as it did. -/
def effectsOfSpec : ChangeSpec := { name := "effectsOf", fn := fun _ => fun
  | [d1, d2] => { results := [.lit (.bool true)], args := [d1, d2] }
  | _ => none }
def effectsOfRow : OpenClaim := { program := "ytagmagnkigjggaagreatdoor", sum := "56044b5a52b02da5c0078ea117c0a99417b01aedd0745ecacf110ed4346a9bab", func := "simulcast/simulcastlaw47.EffectsOf", spec := "effectsOf", unfollowed := true, recurses := true, named := ["simulcast/lexer.keywords", "simulcast/array.powers"], loops := true, apart := false, laid := [("simulcast/lexer.keywords", laid_simulcast_lexer_keywords), ("simulcast/array.powers", laid_simulcast_array_powers)] }
def EffectsOfSaid : Prop := effectsOfRow.holds Tryz.pinned (OpenSpec.ofChange effectsOfSpec)

/-- ITS FALSE NEIGHBOUR: 'it returns false'. Refute it at one input. -/
def effectsOfWrong : ChangeSpec := { name := "effectsOf", fn := fun _ => fun
  | [d1, d2] => { results := [.lit (.bool false)], args := [d1, d2] }
  | _ => none }
def EffectsOfWrongFalsely : Prop := effectsOfRow.holds Tryz.pinned (OpenSpec.ofChange effectsOfWrong)

/- THE SECOND FORM. 'bulk': how many values and letters a reading holds, each counted each time it is reached (what is shared counts as often as it is met; a slice's spare places count too). A statement '..UptoSaid' is the law's where the arguments, and the package variables that the reading takes, are together of bulk at most 1048576: NARROWER than '..Said'. Prove '..Said' where nothing that the law and all that it calls make is longer than what came in: it says more and counts as full. Else prove '..UptoSaid'. A law counts once. -/
mutual
def uptoBulk {H : Type} : DataW H → Nat
  | .lit (.string bytes) => bytes.length + 1
  | .lit _ => 1
  | .nil => 1
  | .ptr d => uptoBulk d + 1
  | .slice elems spare => uptoBulkAll elems + uptoBulkAll spare + 1
  | .agg parts => uptoBulkAll parts + 1
  | .iface _ d => uptoBulk d + 1
  | .map entries => uptoBulkEntries entries + 1
  | .held _ => 1
def uptoBulkAll {H : Type} : List (DataW H) → Nat
  | [] => 0
  | d :: r => uptoBulk d + uptoBulkAll r
def uptoBulkEntries {H : Type} : List (Lit × DataW H) → Nat
  | [] => 0
  | x :: r => uptoBulkEntry x + uptoBulkEntries r
def uptoBulkEntry {H : Type} : Lit × DataW H → Nat
  | (.string bytes, d) => bytes.length + uptoBulk d + 1
  | (_, d) => uptoBulk d + 1
 end
def uptoSmall : (H : Type) → List (DataW H) → Bool := fun _ ds => decide (uptoBulkAll ds ≤ 1048576)
def OpenSpec.upto (s : _root_.Go.ChangeSpec) : _root_.Go.OpenSpec := { _root_.Go.OpenSpec.ofChange s with cond := some uptoSmall }

/-- 'simulcastlaw47.EffectsOf', WHERE WHAT IT READS IS OF BULK AT MOST 1048576: true; the input reads as it did. -/
def effectsOfUptoRow : OpenClaim := { program := "ytagmagnkigjggaagreatdoor", sum := "56044b5a52b02da5c0078ea117c0a99417b01aedd0745ecacf110ed4346a9bab", func := "simulcast/simulcastlaw47.EffectsOf", spec := "effectsOf", unfollowed := true, recurses := true, named := ["simulcast/lexer.keywords", "simulcast/array.powers"], loops := true, apart := false, laid := [("simulcast/lexer.keywords", laid_simulcast_lexer_keywords), ("simulcast/array.powers", laid_simulcast_array_powers)], narrowed := true }
def EffectsOfUptoSaid : Prop := effectsOfUptoRow.holds Tryz.pinned (OpenSpec.upto effectsOfSpec)

end Rows
end Go.Proofs.YtagmagnkigjggaaGreatDoor
