/-
  DERIVED. GIVEN WITH THE SEED: THE PROGRAM's TIES (one call each: nine closed facts by the kernel) AND EACH ROW's TIE, after the 31st guide's Derived/Test/Toyas{Tie, Card}.lean. No idea stands in it: it is a product of the set-up. Laid BY PROGRAM, IN A SANDBOX (cutbox-door.mjs). By AI agents, Wed Nov 11 2026. No macro, syntax, notation, axiom, sorry.
-/
import Derived.Test.YthooffbjfpehhaaDoorRows
import Derived.LaidByTextLater
import Derived.SevenTiedAt
import Derived.LaidSub
import Derived.LaidOnce
namespace Go.Proofs.YthooffbjfpehhaaDoor
open Go
set_option maxRecDepth 100000
theorem seatTie1 : Tryd.prog.laidByTextLater [("sodality/keccak.constants", Rows.laid_sodality_keccak_constants), ("sodality/keccak.turns", Rows.laid_sodality_keccak_turns), ("sodality/keccak.places", Rows.laid_sodality_keccak_places)] [.data, .data, .data] true :=
  Program.laidByTextLater_by_one 24 8 25 (by kernel_rfl) (by kernel_rfl) (by kernel_rfl) (by kernel_rfl) (by kernel_rfl) (by kernel_rfl) (fun _ _ => by kernel_rfl)
theorem noOwnUnsafe : Tryd.pinned.checked.prog.headLifts.contains "ownunsafe" = false := by kernel_rfl
theorem tie : Tryd.prog.laidByTextLater [("sodality/keccak.constants", Rows.laid_sodality_keccak_constants), ("sodality/keccak.turns", Rows.laid_sodality_keccak_turns), ("sodality/keccak.places", Rows.laid_sodality_keccak_places)] [.data, .data, .data] true :=
  Program.laidByTextLater.sub seatTie1 ["sodality/keccak.constants", "sodality/keccak.turns", "sodality/keccak.places"] (by kernel_rfl) (by kernel_rfl)
theorem kpkeSmall_row_tie : Rows.kpkeSmallRow.laidByTextAt .later Tryd.pinned [.data, .data, .data] true :=
  OpenClaim.laidByTextAt_later rfl rfl tie noOwnUnsafe
theorem kpkeDraws_row_tie : Rows.kpkeDrawsRow.laidByTextAt .later Tryd.pinned [.data, .data, .data] true :=
  OpenClaim.laidByTextAt_later rfl rfl tie noOwnUnsafe
theorem kpkeSmallUpto_row_tie : Rows.kpkeSmallUptoRow.laidByTextAt .later Tryd.pinned [.data, .data, .data] true :=
  OpenClaim.laidByTextAt_later rfl rfl tie noOwnUnsafe
theorem kpkeDrawsUpto_row_tie : Rows.kpkeDrawsUptoRow.laidByTextAt .later Tryd.pinned [.data, .data, .data] true :=
  OpenClaim.laidByTextAt_later rfl rfl tie noOwnUnsafe
end Go.Proofs.YthooffbjfpehhaaDoor
