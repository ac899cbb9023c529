/-
  NARROWER THAN 'FOR EVERY INPUT', by the rows' own cells (each row's printed sentence says how): TypesParts: loops, laid · TypesWraps: loops, laid · TypesOf: loops, laid · TypesCheck: loops, laid · TypesVars: loops, laid · TypesMore: loops, laid.
  DERIVED. THE GIVEN ROWS OF THIS SEAT. 6 by the template 'for every input the law returns true; each argument reads behind the call as it read before'; 0 by the template 'total and deterministic' (their statements: YtijbnjaackhlcaaGreatDoorTotals.lean).
  GIVEN WITH THE SEED: the statements are not yours to turn. If you find one false, say at which input.
  Laid BY PROGRAM, IN A SANDBOX (cutbox-rows.mjs): the forced cells as the released guide's own fill.sh prints them over the translation d81644548d4e0849… (all of the seat's roots in one cut). By AI agents, Wed Nov 11 2026. No macro, syntax, notation, axiom, sorry.
-/
import Derived.Test.YtijbnjaackhlcaaGreatDoorChecked
import GoSem.Claim
import GoSem.ClaimJoined
import GoSem.ClaimMapViews
import Derived.JoinedTies
import Derived.KernelRfl
namespace Go.Proofs.YtijbnjaackhlcaaGreatDoor
/- THE CELL 'sum', in the pinned program and in every row, IS THE sha256 OF THE DUMP (.gsa) THAT YtijbnjaackhlcaaGreatDoorProg.lean LOADS. Nothing in Lean hashes anything: it is a label: what it is worth is what the hold of that sum in a sandbox is worth. -/
noncomputable def Tryz.pinned : Pinned := { name := "ytijbnjaackhlcaagreatdoor", sum := "d81644548d4e084917af64a9ddcd140080b213d3d4d3982b6adff1e726a38f0f", checked := Tryz.checked }
namespace Rows
def none {H : Type} : Left H := { results := [], args := [] }

/- WHAT THE LISTED PACKAGE-LEVEL VARIABLES READ AS WHEN THE CALL BEGINS. Each datum BY PROGRAM (the guide's laid-datum.mjs) off the statement by which the dump's own 'gosem.cut.vars' lays the variable. In a bare row this is a premise. The card (YtijbnjaackhlcaaGreatDoorCards.lean) ties it to the program's text. -/
def laid_simulcast_lexer_keywords {H : Type} : DataW H := .agg [.lit (.string [97, 98, 111, 114, 116]), .lit (.string [97, 110, 100]), .lit (.string [101, 108, 115, 101]), .lit (.string [102, 97, 108, 115, 101]), .lit (.string [104, 111, 115, 116]), .lit (.string [105, 102]), .lit (.string [108, 101, 116]), .lit (.string [110, 111, 116]), .lit (.string [111, 112]), .lit (.string [111, 114]), .lit (.string [114, 101, 112, 101, 97, 116]), .lit (.string [114, 101, 116, 117, 114, 110]), .lit (.string [115, 116, 111, 114, 101]), .lit (.string [116, 114, 117, 101])]
def laid_simulcast_array_powers {H : Type} : DataW H := .agg [.lit (.int .i64 1), .lit (.int .i64 8), .lit (.int .i64 64), .lit (.int .i64 512), .lit (.int .i64 4096)]

/-- 'simulcastlaw46.TypesParts': WHATEVER THE INPUT: true; the input reads as it did. -/
def typesPartsSpec : ChangeSpec := { name := "typesParts", fn := fun _ => fun
  | [d1, d2, d3] => { results := [.lit (.bool true)], args := [d1, d2, d3] }
  | _ => none }
def typesPartsRow : OpenClaim := { program := "ytijbnjaackhlcaagreatdoor", sum := "d81644548d4e084917af64a9ddcd140080b213d3d4d3982b6adff1e726a38f0f", func := "simulcast/simulcastlaw46.TypesParts", spec := "typesParts", unfollowed := true, recurses := true, named := ["simulcast/lexer.keywords", "simulcast/array.powers"], loops := true, apart := false, laid := [("simulcast/lexer.keywords", laid_simulcast_lexer_keywords), ("simulcast/array.powers", laid_simulcast_array_powers)] }
def TypesPartsSaid : Prop := typesPartsRow.holds Tryz.pinned (OpenSpec.ofChange typesPartsSpec)

/-- ITS FALSE NEIGHBOUR: 'it returns false'. Refute it at one input. -/
def typesPartsWrong : ChangeSpec := { name := "typesParts", fn := fun _ => fun
  | [d1, d2, d3] => { results := [.lit (.bool false)], args := [d1, d2, d3] }
  | _ => none }
def TypesPartsWrongFalsely : Prop := typesPartsRow.holds Tryz.pinned (OpenSpec.ofChange typesPartsWrong)

/-- 'simulcastlaw46.TypesWraps': WHATEVER THE INPUT: true; the input reads as it did. -/
def typesWrapsSpec : ChangeSpec := { name := "typesWraps", fn := fun _ => fun
  | [d1, d2, d3] => { results := [.lit (.bool true)], args := [d1, d2, d3] }
  | _ => none }
def typesWrapsRow : OpenClaim := { program := "ytijbnjaackhlcaagreatdoor", sum := "d81644548d4e084917af64a9ddcd140080b213d3d4d3982b6adff1e726a38f0f", func := "simulcast/simulcastlaw46.TypesWraps", spec := "typesWraps", unfollowed := true, recurses := true, named := ["simulcast/lexer.keywords", "simulcast/array.powers"], loops := true, apart := false, laid := [("simulcast/lexer.keywords", laid_simulcast_lexer_keywords), ("simulcast/array.powers", laid_simulcast_array_powers)] }
def TypesWrapsSaid : Prop := typesWrapsRow.holds Tryz.pinned (OpenSpec.ofChange typesWrapsSpec)

/-- ITS FALSE NEIGHBOUR: 'it returns false'. Refute it at one input. -/
def typesWrapsWrong : ChangeSpec := { name := "typesWraps", fn := fun _ => fun
  | [d1, d2, d3] => { results := [.lit (.bool false)], args := [d1, d2, d3] }
  | _ => none }
def TypesWrapsWrongFalsely : Prop := typesWrapsRow.holds Tryz.pinned (OpenSpec.ofChange typesWrapsWrong)

/-- 'simulcastlaw46.TypesOf': WHATEVER THE INPUT: true; the input reads as it did. -/
def typesOfSpec : ChangeSpec := { name := "typesOf", fn := fun _ => fun
  | [d1, d2] => { results := [.lit (.bool true)], args := [d1, d2] }
  | _ => none }
def typesOfRow : OpenClaim := { program := "ytijbnjaackhlcaagreatdoor", sum := "d81644548d4e084917af64a9ddcd140080b213d3d4d3982b6adff1e726a38f0f", func := "simulcast/simulcastlaw46.TypesOf", spec := "typesOf", unfollowed := true, recurses := true, named := ["simulcast/lexer.keywords", "simulcast/array.powers"], loops := true, apart := false, laid := [("simulcast/lexer.keywords", laid_simulcast_lexer_keywords), ("simulcast/array.powers", laid_simulcast_array_powers)] }
def TypesOfSaid : Prop := typesOfRow.holds Tryz.pinned (OpenSpec.ofChange typesOfSpec)

/-- ITS FALSE NEIGHBOUR: 'it returns false'. Refute it at one input. -/
def typesOfWrong : ChangeSpec := { name := "typesOf", fn := fun _ => fun
  | [d1, d2] => { results := [.lit (.bool false)], args := [d1, d2] }
  | _ => none }
def TypesOfWrongFalsely : Prop := typesOfRow.holds Tryz.pinned (OpenSpec.ofChange typesOfWrong)

/-- 'simulcastlaw46.TypesCheck': WHATEVER THE INPUT: true; the input reads as it did. -/
def typesCheckSpec : ChangeSpec := { name := "typesCheck", fn := fun _ => fun
  | [d] => { results := [.lit (.bool true)], args := [d] }
  | _ => none }
def typesCheckRow : OpenClaim := { program := "ytijbnjaackhlcaagreatdoor", sum := "d81644548d4e084917af64a9ddcd140080b213d3d4d3982b6adff1e726a38f0f", func := "simulcast/simulcastlaw46.TypesCheck", spec := "typesCheck", unfollowed := true, recurses := true, named := ["simulcast/lexer.keywords", "simulcast/array.powers"], loops := true, apart := false, laid := [("simulcast/lexer.keywords", laid_simulcast_lexer_keywords), ("simulcast/array.powers", laid_simulcast_array_powers)] }
def TypesCheckSaid : Prop := typesCheckRow.holds Tryz.pinned (OpenSpec.ofChange typesCheckSpec)

/-- ITS FALSE NEIGHBOUR: 'it returns false'. Refute it at one input. -/
def typesCheckWrong : ChangeSpec := { name := "typesCheck", fn := fun _ => fun
  | [d] => { results := [.lit (.bool false)], args := [d] }
  | _ => none }
def TypesCheckWrongFalsely : Prop := typesCheckRow.holds Tryz.pinned (OpenSpec.ofChange typesCheckWrong)

/-- 'simulcastlaw46.TypesVars': WHATEVER THE INPUT: true; the input reads as it did. -/
def typesVarsSpec : ChangeSpec := { name := "typesVars", fn := fun _ => fun
  | [d1, d2] => { results := [.lit (.bool true)], args := [d1, d2] }
  | _ => none }
def typesVarsRow : OpenClaim := { program := "ytijbnjaackhlcaagreatdoor", sum := "d81644548d4e084917af64a9ddcd140080b213d3d4d3982b6adff1e726a38f0f", func := "simulcast/simulcastlaw46.TypesVars", spec := "typesVars", unfollowed := true, recurses := true, named := ["simulcast/lexer.keywords", "simulcast/array.powers"], loops := true, apart := false, laid := [("simulcast/lexer.keywords", laid_simulcast_lexer_keywords), ("simulcast/array.powers", laid_simulcast_array_powers)] }
def TypesVarsSaid : Prop := typesVarsRow.holds Tryz.pinned (OpenSpec.ofChange typesVarsSpec)

/-- ITS FALSE NEIGHBOUR: 'it returns false'. Refute it at one input. -/
def typesVarsWrong : ChangeSpec := { name := "typesVars", fn := fun _ => fun
  | [d1, d2] => { results := [.lit (.bool false)], args := [d1, d2] }
  | _ => none }
def TypesVarsWrongFalsely : Prop := typesVarsRow.holds Tryz.pinned (OpenSpec.ofChange typesVarsWrong)

/-- 'simulcastlaw46.TypesMore': WHATEVER THE INPUT: true; the input reads as it did. -/
def typesMoreSpec : ChangeSpec := { name := "typesMore", fn := fun _ => fun
  | [d1, d2, d3] => { results := [.lit (.bool true)], args := [d1, d2, d3] }
  | _ => none }
def typesMoreRow : OpenClaim := { program := "ytijbnjaackhlcaagreatdoor", sum := "d81644548d4e084917af64a9ddcd140080b213d3d4d3982b6adff1e726a38f0f", func := "simulcast/simulcastlaw46.TypesMore", spec := "typesMore", unfollowed := true, recurses := true, named := ["simulcast/lexer.keywords", "simulcast/array.powers"], loops := true, apart := false, laid := [("simulcast/lexer.keywords", laid_simulcast_lexer_keywords), ("simulcast/array.powers", laid_simulcast_array_powers)] }
def TypesMoreSaid : Prop := typesMoreRow.holds Tryz.pinned (OpenSpec.ofChange typesMoreSpec)

/-- ITS FALSE NEIGHBOUR: 'it returns false'. Refute it at one input. -/
def typesMoreWrong : ChangeSpec := { name := "typesMore", fn := fun _ => fun
  | [d1, d2, d3] => { results := [.lit (.bool false)], args := [d1, d2, d3] }
  | _ => none }
def TypesMoreWrongFalsely : Prop := typesMoreRow.holds Tryz.pinned (OpenSpec.ofChange typesMoreWrong)

/- THE SECOND FORM. 'bulk': how many values and letters a reading holds, each counted each time it is reached (what is shared counts as often as it is met; a slice's spare places count too). A statement '..UptoSaid' is the law's where the arguments, and the package variables that the reading takes, are together of bulk at most 1048576: NARROWER than '..Said'. Prove '..Said' where nothing that the law and all that it calls make is longer than what came in: it says more and counts as full. Else prove '..UptoSaid'. A law counts once. -/
mutual
def uptoBulk {H : Type} : DataW H → Nat
  | .lit (.string bytes) => bytes.length + 1
  | .lit _ => 1
  | .nil => 1
  | .ptr d => uptoBulk d + 1
  | .slice elems spare => uptoBulkAll elems + uptoBulkAll spare + 1
  | .agg parts => uptoBulkAll parts + 1
  | .iface _ d => uptoBulk d + 1
  | .map entries => uptoBulkEntries entries + 1
  | .held _ => 1
def uptoBulkAll {H : Type} : List (DataW H) → Nat
  | [] => 0
  | d :: r => uptoBulk d + uptoBulkAll r
def uptoBulkEntries {H : Type} : List (Lit × DataW H) → Nat
  | [] => 0
  | x :: r => uptoBulkEntry x + uptoBulkEntries r
def uptoBulkEntry {H : Type} : Lit × DataW H → Nat
  | (.string bytes, d) => bytes.length + uptoBulk d + 1
  | (_, d) => uptoBulk d + 1
 end
def uptoSmall : (H : Type) → List (DataW H) → Bool := fun _ ds => decide (uptoBulkAll ds ≤ 1048576)
def OpenSpec.upto (s : _root_.Go.ChangeSpec) : _root_.Go.OpenSpec := { _root_.Go.OpenSpec.ofChange s with cond := some uptoSmall }

/-- 'simulcastlaw46.TypesParts', WHERE WHAT IT READS IS OF BULK AT MOST 1048576: true; the input reads as it did. -/
def typesPartsUptoRow : OpenClaim := { program := "ytijbnjaackhlcaagreatdoor", sum := "d81644548d4e084917af64a9ddcd140080b213d3d4d3982b6adff1e726a38f0f", func := "simulcast/simulcastlaw46.TypesParts", spec := "typesParts", unfollowed := true, recurses := true, named := ["simulcast/lexer.keywords", "simulcast/array.powers"], loops := true, apart := false, laid := [("simulcast/lexer.keywords", laid_simulcast_lexer_keywords), ("simulcast/array.powers", laid_simulcast_array_powers)], narrowed := true }
def TypesPartsUptoSaid : Prop := typesPartsUptoRow.holds Tryz.pinned (OpenSpec.upto typesPartsSpec)

/-- 'simulcastlaw46.TypesWraps', WHERE WHAT IT READS IS OF BULK AT MOST 1048576: true; the input reads as it did. -/
def typesWrapsUptoRow : OpenClaim := { program := "ytijbnjaackhlcaagreatdoor", sum := "d81644548d4e084917af64a9ddcd140080b213d3d4d3982b6adff1e726a38f0f", func := "simulcast/simulcastlaw46.TypesWraps", spec := "typesWraps", unfollowed := true, recurses := true, named := ["simulcast/lexer.keywords", "simulcast/array.powers"], loops := true, apart := false, laid := [("simulcast/lexer.keywords", laid_simulcast_lexer_keywords), ("simulcast/array.powers", laid_simulcast_array_powers)], narrowed := true }
def TypesWrapsUptoSaid : Prop := typesWrapsUptoRow.holds Tryz.pinned (OpenSpec.upto typesWrapsSpec)

/-- 'simulcastlaw46.TypesOf', WHERE WHAT IT READS IS OF BULK AT MOST 1048576: true; the input reads as it did. -/
def typesOfUptoRow : OpenClaim := { program := "ytijbnjaackhlcaagreatdoor", sum := "d81644548d4e084917af64a9ddcd140080b213d3d4d3982b6adff1e726a38f0f", func := "simulcast/simulcastlaw46.TypesOf", spec := "typesOf", unfollowed := true, recurses := true, named := ["simulcast/lexer.keywords", "simulcast/array.powers"], loops := true, apart := false, laid := [("simulcast/lexer.keywords", laid_simulcast_lexer_keywords), ("simulcast/array.powers", laid_simulcast_array_powers)], narrowed := true }
def TypesOfUptoSaid : Prop := typesOfUptoRow.holds Tryz.pinned (OpenSpec.upto typesOfSpec)

/-- 'simulcastlaw46.TypesCheck', WHERE WHAT IT READS IS OF BULK AT MOST 1048576: true; the input reads as it did. -/
def typesCheckUptoRow : OpenClaim := { program := "ytijbnjaackhlcaagreatdoor", sum := "d81644548d4e084917af64a9ddcd140080b213d3d4d3982b6adff1e726a38f0f", func := "simulcast/simulcastlaw46.TypesCheck", spec := "typesCheck", unfollowed := true, recurses := true, named := ["simulcast/lexer.keywords", "simulcast/array.powers"], loops := true, apart := false, laid := [("simulcast/lexer.keywords", laid_simulcast_lexer_keywords), ("simulcast/array.powers", laid_simulcast_array_powers)], narrowed := true }
def TypesCheckUptoSaid : Prop := typesCheckUptoRow.holds Tryz.pinned (OpenSpec.upto typesCheckSpec)

/-- 'simulcastlaw46.TypesVars', WHERE WHAT IT READS IS OF BULK AT MOST 1048576: true; the input reads as it did. -/
def typesVarsUptoRow : OpenClaim := { program := "ytijbnjaackhlcaagreatdoor", sum := "d81644548d4e084917af64a9ddcd140080b213d3d4d3982b6adff1e726a38f0f", func := "simulcast/simulcastlaw46.TypesVars", spec := "typesVars", unfollowed := true, recurses := true, named := ["simulcast/lexer.keywords", "simulcast/array.powers"], loops := true, apart := false, laid := [("simulcast/lexer.keywords", laid_simulcast_lexer_keywords), ("simulcast/array.powers", laid_simulcast_array_powers)], narrowed := true }
def TypesVarsUptoSaid : Prop := typesVarsUptoRow.holds Tryz.pinned (OpenSpec.upto typesVarsSpec)

/-- 'simulcastlaw46.TypesMore', WHERE WHAT IT READS IS OF BULK AT MOST 1048576: true; the input reads as it did. -/
def typesMoreUptoRow : OpenClaim := { program := "ytijbnjaackhlcaagreatdoor", sum := "d81644548d4e084917af64a9ddcd140080b213d3d4d3982b6adff1e726a38f0f", func := "simulcast/simulcastlaw46.TypesMore", spec := "typesMore", unfollowed := true, recurses := true, named := ["simulcast/lexer.keywords", "simulcast/array.powers"], loops := true, apart := false, laid := [("simulcast/lexer.keywords", laid_simulcast_lexer_keywords), ("simulcast/array.powers", laid_simulcast_array_powers)], narrowed := true }
def TypesMoreUptoSaid : Prop := typesMoreUptoRow.holds Tryz.pinned (OpenSpec.upto typesMoreSpec)

end Rows
end Go.Proofs.YtijbnjaackhlcaaGreatDoor
