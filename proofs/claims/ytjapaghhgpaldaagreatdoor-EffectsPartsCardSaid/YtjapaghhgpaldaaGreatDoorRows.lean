/-
  NARROWER THAN 'FOR EVERY INPUT', by the rows' own cells (each row's printed sentence says how): EffectsParts: loops, laid · EffectsRepeats: loops, laid · EffectsGroups: laid · EffectsJoin: laid · EffectsOf: loops, laid.
  DERIVED. THE GIVEN ROWS OF THIS SEAT. 5 by the template 'for every input the law returns true; each argument reads behind the call as it read before'; 0 by the template 'total and deterministic' (their statements: YtjapaghhgpaldaaGreatDoorTotals.lean).
  GIVEN WITH THE SEED: the statements are not yours to turn. If you find one false, say at which input.
  Laid BY PROGRAM, IN A SANDBOX (cutbox-rows.mjs): the forced cells as the released guide's own fill.sh prints them over the translation 1da0418d6f69dac8… (all of the seat's roots in one cut). By AI agents, Wed Nov 11 2026. No macro, syntax, notation, axiom, sorry.
-/
import Derived.Test.YtjapaghhgpaldaaGreatDoorChecked
import GoSem.Claim
import GoSem.ClaimJoined
import GoSem.ClaimMapViews
import Derived.JoinedTies
import Derived.KernelRfl
namespace Go.Proofs.YtjapaghhgpaldaaGreatDoor
/- THE CELL 'sum', in the pinned program and in every row, IS THE sha256 OF THE DUMP (.gsa) THAT YtjapaghhgpaldaaGreatDoorProg.lean LOADS. Nothing in Lean hashes anything: it is a label: what it is worth is what the hold of that sum in a sandbox is worth. -/
noncomputable def Tryz.pinned : Pinned := { name := "ytjapaghhgpaldaagreatdoor", sum := "1da0418d6f69dac8edb90f634372864577badc17b7b43aa81b5f82f65e873bd6", checked := Tryz.checked }
namespace Rows
def none {H : Type} : Left H := { results := [], args := [] }

/- WHAT THE LISTED PACKAGE-LEVEL VARIABLES READ AS WHEN THE CALL BEGINS. Each datum BY PROGRAM (the guide's laid-datum.mjs) off the statement by which the dump's own 'gosem.cut.vars' lays the variable. In a bare row this is a premise. The card (YtjapaghhgpaldaaGreatDoorCards.lean) ties it to the program's text. -/
def laid_simulcast_lexer_keywords {H : Type} : DataW H := .agg [.lit (.string [97, 98, 111, 114, 116]), .lit (.string [97, 110, 100]), .lit (.string [101, 108, 115, 101]), .lit (.string [102, 97, 108, 115, 101]), .lit (.string [104, 111, 115, 116]), .lit (.string [105, 102]), .lit (.string [108, 101, 116]), .lit (.string [110, 111, 116]), .lit (.string [111, 112]), .lit (.string [111, 114]), .lit (.string [114, 101, 112, 101, 97, 116]), .lit (.string [114, 101, 116, 117, 114, 110]), .lit (.string [115, 116, 111, 114, 101]), .lit (.string [116, 114, 117, 101])]
def laid_simulcast_array_powers {H : Type} : DataW H := .agg [.lit (.int .i64 1), .lit (.int .i64 8), .lit (.int .i64 64), .lit (.int .i64 512), .lit (.int .i64 4096)]

/-- 'simulcastlaw47.EffectsParts': WHATEVER THE INPUT: true; the input reads as it did. -/
def effectsPartsSpec : ChangeSpec := { name := "effectsParts", fn := fun _ => fun
  | [d1, d2, d3] => { results := [.lit (.bool true)], args := [d1, d2, d3] }
  | _ => none }
def effectsPartsRow : OpenClaim := { program := "ytjapaghhgpaldaagreatdoor", sum := "1da0418d6f69dac8edb90f634372864577badc17b7b43aa81b5f82f65e873bd6", func := "simulcast/simulcastlaw47.EffectsParts", spec := "effectsParts", unfollowed := true, recurses := true, named := ["simulcast/lexer.keywords", "simulcast/array.powers"], loops := true, apart := false, laid := [("simulcast/lexer.keywords", laid_simulcast_lexer_keywords), ("simulcast/array.powers", laid_simulcast_array_powers)] }
def EffectsPartsSaid : Prop := effectsPartsRow.holds Tryz.pinned (OpenSpec.ofChange effectsPartsSpec)

/-- ITS FALSE NEIGHBOUR: 'it returns false'. Refute it at one input. -/
def effectsPartsWrong : ChangeSpec := { name := "effectsParts", fn := fun _ => fun
  | [d1, d2, d3] => { results := [.lit (.bool false)], args := [d1, d2, d3] }
  | _ => none }
def EffectsPartsWrongFalsely : Prop := effectsPartsRow.holds Tryz.pinned (OpenSpec.ofChange effectsPartsWrong)

/-- 'simulcastlaw47.EffectsRepeats': WHATEVER THE INPUT: true; the input reads as it did. -/
def effectsRepeatsSpec : ChangeSpec := { name := "effectsRepeats", fn := fun _ => fun
  | [d1, d2] => { results := [.lit (.bool true)], args := [d1, d2] }
  | _ => none }
def effectsRepeatsRow : OpenClaim := { program := "ytjapaghhgpaldaagreatdoor", sum := "1da0418d6f69dac8edb90f634372864577badc17b7b43aa81b5f82f65e873bd6", func := "simulcast/simulcastlaw47.EffectsRepeats", spec := "effectsRepeats", unfollowed := true, recurses := true, named := ["simulcast/lexer.keywords", "simulcast/array.powers"], loops := true, apart := false, laid := [("simulcast/lexer.keywords", laid_simulcast_lexer_keywords), ("simulcast/array.powers", laid_simulcast_array_powers)] }
def EffectsRepeatsSaid : Prop := effectsRepeatsRow.holds Tryz.pinned (OpenSpec.ofChange effectsRepeatsSpec)

/-- ITS FALSE NEIGHBOUR: 'it returns false'. Refute it at one input. -/
def effectsRepeatsWrong : ChangeSpec := { name := "effectsRepeats", fn := fun _ => fun
  | [d1, d2] => { results := [.lit (.bool false)], args := [d1, d2] }
  | _ => none }
def EffectsRepeatsWrongFalsely : Prop := effectsRepeatsRow.holds Tryz.pinned (OpenSpec.ofChange effectsRepeatsWrong)

/-- 'simulcastlaw47.EffectsGroups': WHATEVER THE INPUT: true; the input reads as it did. -/
def effectsGroupsSpec : ChangeSpec := { name := "effectsGroups", fn := fun _ => fun
  | [d] => { results := [.lit (.bool true)], args := [d] }
  | _ => none }
def effectsGroupsRow : OpenClaim := { program := "ytjapaghhgpaldaagreatdoor", sum := "1da0418d6f69dac8edb90f634372864577badc17b7b43aa81b5f82f65e873bd6", func := "simulcast/simulcastlaw47.EffectsGroups", spec := "effectsGroups", unfollowed := true, recurses := true, named := ["simulcast/lexer.keywords", "simulcast/array.powers"], apart := false, laid := [("simulcast/lexer.keywords", laid_simulcast_lexer_keywords), ("simulcast/array.powers", laid_simulcast_array_powers)] }
def EffectsGroupsSaid : Prop := effectsGroupsRow.holds Tryz.pinned (OpenSpec.ofChange effectsGroupsSpec)

/-- ITS FALSE NEIGHBOUR: 'it returns false'. Refute it at one input. -/
def effectsGroupsWrong : ChangeSpec := { name := "effectsGroups", fn := fun _ => fun
  | [d] => { results := [.lit (.bool false)], args := [d] }
  | _ => none }
def EffectsGroupsWrongFalsely : Prop := effectsGroupsRow.holds Tryz.pinned (OpenSpec.ofChange effectsGroupsWrong)

/-- 'simulcastlaw47.EffectsJoin': WHATEVER THE INPUT: true; the input reads as it did. -/
def effectsJoinSpec : ChangeSpec := { name := "effectsJoin", fn := fun _ => fun
  | [d1, d2, d3] => { results := [.lit (.bool true)], args := [d1, d2, d3] }
  | _ => none }
def effectsJoinRow : OpenClaim := { program := "ytjapaghhgpaldaagreatdoor", sum := "1da0418d6f69dac8edb90f634372864577badc17b7b43aa81b5f82f65e873bd6", func := "simulcast/simulcastlaw47.EffectsJoin", spec := "effectsJoin", unfollowed := true, recurses := true, named := ["simulcast/lexer.keywords", "simulcast/array.powers"], apart := false, laid := [("simulcast/lexer.keywords", laid_simulcast_lexer_keywords), ("simulcast/array.powers", laid_simulcast_array_powers)] }
def EffectsJoinSaid : Prop := effectsJoinRow.holds Tryz.pinned (OpenSpec.ofChange effectsJoinSpec)

/-- ITS FALSE NEIGHBOUR: 'it returns false'. Refute it at one input. -/
def effectsJoinWrong : ChangeSpec := { name := "effectsJoin", fn := fun _ => fun
  | [d1, d2, d3] => { results := [.lit (.bool false)], args := [d1, d2, d3] }
  | _ => none }
def EffectsJoinWrongFalsely : Prop := effectsJoinRow.holds Tryz.pinned (OpenSpec.ofChange effectsJoinWrong)

/-- 'simulcastlaw47.EffectsOf': WHATEVER THE INPUT: true; the input reads as it did. -/
def effectsOfSpec : ChangeSpec := { name := "effectsOf", fn := fun _ => fun
  | [d1, d2] => { results := [.lit (.bool true)], args := [d1, d2] }
  | _ => none }
def effectsOfRow : OpenClaim := { program := "ytjapaghhgpaldaagreatdoor", sum := "1da0418d6f69dac8edb90f634372864577badc17b7b43aa81b5f82f65e873bd6", func := "simulcast/simulcastlaw47.EffectsOf", spec := "effectsOf", unfollowed := true, recurses := true, named := ["simulcast/lexer.keywords", "simulcast/array.powers"], loops := true, apart := false, laid := [("simulcast/lexer.keywords", laid_simulcast_lexer_keywords), ("simulcast/array.powers", laid_simulcast_array_powers)] }
def EffectsOfSaid : Prop := effectsOfRow.holds Tryz.pinned (OpenSpec.ofChange effectsOfSpec)

/-- ITS FALSE NEIGHBOUR: 'it returns false'. Refute it at one input. -/
def effectsOfWrong : ChangeSpec := { name := "effectsOf", fn := fun _ => fun
  | [d1, d2] => { results := [.lit (.bool false)], args := [d1, d2] }
  | _ => none }
def EffectsOfWrongFalsely : Prop := effectsOfRow.holds Tryz.pinned (OpenSpec.ofChange effectsOfWrong)

/- THE SECOND FORM. 'bulk': how many values and letters a reading holds, each counted each time it is reached (what is shared counts as often as it is met; a slice's spare places count too). A statement '..UptoSaid' is the law's where the arguments, and the package variables that the reading takes, are together of bulk at most 1048576: NARROWER than '..Said'. Prove '..Said' where nothing that the law and all that it calls make is longer than what came in: it says more and counts as full. Else prove '..UptoSaid'. A law counts once. -/
mutual
def uptoBulk {H : Type} : DataW H → Nat
  | .lit (.string bytes) => bytes.length + 1
  | .lit _ => 1
  | .nil => 1
  | .ptr d => uptoBulk d + 1
  | .slice elems spare => uptoBulkAll elems + uptoBulkAll spare + 1
  | .agg parts => uptoBulkAll parts + 1
  | .iface _ d => uptoBulk d + 1
  | .map entries => uptoBulkEntries entries + 1
  | .held _ => 1
def uptoBulkAll {H : Type} : List (DataW H) → Nat
  | [] => 0
  | d :: r => uptoBulk d + uptoBulkAll r
def uptoBulkEntries {H : Type} : List (Lit × DataW H) → Nat
  | [] => 0
  | x :: r => uptoBulkEntry x + uptoBulkEntries r
def uptoBulkEntry {H : Type} : Lit × DataW H → Nat
  | (.string bytes, d) => bytes.length + uptoBulk d + 1
  | (_, d) => uptoBulk d + 1
 end
def uptoSmall : (H : Type) → List (DataW H) → Bool := fun _ ds => decide (uptoBulkAll ds ≤ 1048576)
def OpenSpec.upto (s : _root_.Go.ChangeSpec) : _root_.Go.OpenSpec := { _root_.Go.OpenSpec.ofChange s with cond := some uptoSmall }

/-- 'simulcastlaw47.EffectsParts', WHERE WHAT IT READS IS OF BULK AT MOST 1048576: true; the input reads as it did. -/
def effectsPartsUptoRow : OpenClaim := { program := "ytjapaghhgpaldaagreatdoor", sum := "1da0418d6f69dac8edb90f634372864577badc17b7b43aa81b5f82f65e873bd6", func := "simulcast/simulcastlaw47.EffectsParts", spec := "effectsParts", unfollowed := true, recurses := true, named := ["simulcast/lexer.keywords", "simulcast/array.powers"], loops := true, apart := false, laid := [("simulcast/lexer.keywords", laid_simulcast_lexer_keywords), ("simulcast/array.powers", laid_simulcast_array_powers)], narrowed := true }
def EffectsPartsUptoSaid : Prop := effectsPartsUptoRow.holds Tryz.pinned (OpenSpec.upto effectsPartsSpec)

/-- 'simulcastlaw47.EffectsRepeats', WHERE WHAT IT READS IS OF BULK AT MOST 1048576: true; the input reads as it did. -/
def effectsRepeatsUptoRow : OpenClaim := { program := "ytjapaghhgpaldaagreatdoor", sum := "1da0418d6f69dac8edb90f634372864577badc17b7b43aa81b5f82f65e873bd6", func := "simulcast/simulcastlaw47.EffectsRepeats", spec := "effectsRepeats", unfollowed := true, recurses := true, named := ["simulcast/lexer.keywords", "simulcast/array.powers"], loops := true, apart := false, laid := [("simulcast/lexer.keywords", laid_simulcast_lexer_keywords), ("simulcast/array.powers", laid_simulcast_array_powers)], narrowed := true }
def EffectsRepeatsUptoSaid : Prop := effectsRepeatsUptoRow.holds Tryz.pinned (OpenSpec.upto effectsRepeatsSpec)

/-- 'simulcastlaw47.EffectsGroups', WHERE WHAT IT READS IS OF BULK AT MOST 1048576: true; the input reads as it did. -/
def effectsGroupsUptoRow : OpenClaim := { program := "ytjapaghhgpaldaagreatdoor", sum := "1da0418d6f69dac8edb90f634372864577badc17b7b43aa81b5f82f65e873bd6", func := "simulcast/simulcastlaw47.EffectsGroups", spec := "effectsGroups", unfollowed := true, recurses := true, named := ["simulcast/lexer.keywords", "simulcast/array.powers"], apart := false, laid := [("simulcast/lexer.keywords", laid_simulcast_lexer_keywords), ("simulcast/array.powers", laid_simulcast_array_powers)], narrowed := true }
def EffectsGroupsUptoSaid : Prop := effectsGroupsUptoRow.holds Tryz.pinned (OpenSpec.upto effectsGroupsSpec)

/-- 'simulcastlaw47.EffectsJoin', WHERE WHAT IT READS IS OF BULK AT MOST 1048576: true; the input reads as it did. -/
def effectsJoinUptoRow : OpenClaim := { program := "ytjapaghhgpaldaagreatdoor", sum := "1da0418d6f69dac8edb90f634372864577badc17b7b43aa81b5f82f65e873bd6", func := "simulcast/simulcastlaw47.EffectsJoin", spec := "effectsJoin", unfollowed := true, recurses := true, named := ["simulcast/lexer.keywords", "simulcast/array.powers"], apart := false, laid := [("simulcast/lexer.keywords", laid_simulcast_lexer_keywords), ("simulcast/array.powers", laid_simulcast_array_powers)], narrowed := true }
def EffectsJoinUptoSaid : Prop := effectsJoinUptoRow.holds Tryz.pinned (OpenSpec.upto effectsJoinSpec)

/-- 'simulcastlaw47.EffectsOf', WHERE WHAT IT READS IS OF BULK AT MOST 1048576: true; the input reads as it did. -/
def effectsOfUptoRow : OpenClaim := { program := "ytjapaghhgpaldaagreatdoor", sum := "1da0418d6f69dac8edb90f634372864577badc17b7b43aa81b5f82f65e873bd6", func := "simulcast/simulcastlaw47.EffectsOf", spec := "effectsOf", unfollowed := true, recurses := true, named := ["simulcast/lexer.keywords", "simulcast/array.powers"], loops := true, apart := false, laid := [("simulcast/lexer.keywords", laid_simulcast_lexer_keywords), ("simulcast/array.powers", laid_simulcast_array_powers)], narrowed := true }
def EffectsOfUptoSaid : Prop := effectsOfUptoRow.holds Tryz.pinned (OpenSpec.upto effectsOfSpec)

end Rows
end Go.Proofs.YtjapaghhgpaldaaGreatDoor
