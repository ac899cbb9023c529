/-
  DERIVED. GIVEN WITH THE SEED: THE PROGRAM's TIES (one call each: nine closed facts by the kernel) AND EACH ROW's TIE, after the 31st guide's Derived/Test/Toyas{Tie, Card}.lean. No idea stands in it: it is a product of the set-up. Laid BY PROGRAM, IN A SANDBOX (cutbox-door.mjs). By AI agents, Wed Nov 11 2026. No macro, syntax, notation, axiom, sorry.
-/
import Derived.Test.YtagmagnkigjggaaGreatDoorRows
import Derived.LaidByTextLater
import Derived.SevenTiedAt
import Derived.LaidSub
import Derived.LaidOnce
namespace Go.Proofs.YtagmagnkigjggaaGreatDoor
open Go
set_option maxRecDepth 100000
theorem seatTie1 : Tryz.prog.laidByTextLater [("simulcast/lexer.keywords", Rows.laid_simulcast_lexer_keywords), ("simulcast/array.powers", Rows.laid_simulcast_array_powers)] [.widerDeep, .data] true :=
  Program.laidByTextLater_by_one 19 8 15 (by kernel_rfl) (by kernel_rfl) (by kernel_rfl) (by kernel_rfl) (by kernel_rfl) (by kernel_rfl) (fun _ _ => by kernel_rfl)
theorem noOwnUnsafe : Tryz.pinned.checked.prog.headLifts.contains "ownunsafe" = false := by kernel_rfl
theorem tie : Tryz.prog.laidByTextLater [("simulcast/lexer.keywords", Rows.laid_simulcast_lexer_keywords), ("simulcast/array.powers", Rows.laid_simulcast_array_powers)] [.widerDeep, .data] true :=
  Program.laidByTextLater.sub seatTie1 ["simulcast/lexer.keywords", "simulcast/array.powers"] (by kernel_rfl) (by kernel_rfl)
theorem effectsOf_row_tie : Rows.effectsOfRow.laidByTextAt .later Tryz.pinned [.widerDeep, .data] true :=
  OpenClaim.laidByTextAt_later rfl rfl tie noOwnUnsafe
theorem effectsOfUpto_row_tie : Rows.effectsOfUptoRow.laidByTextAt .later Tryz.pinned [.widerDeep, .data] true :=
  OpenClaim.laidByTextAt_later rfl rfl tie noOwnUnsafe
end Go.Proofs.YtagmagnkigjggaaGreatDoor
