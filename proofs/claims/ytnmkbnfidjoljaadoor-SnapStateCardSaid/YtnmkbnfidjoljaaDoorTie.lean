/-
  DERIVED. GIVEN WITH THE SEED: THE PROGRAM's TIES (one call each: nine closed facts by the kernel) AND EACH ROW's TIE, after the 31st guide's Derived/Test/Toyas{Tie, Card}.lean. No idea stands in it: it is a product of the set-up. Laid BY PROGRAM, IN A SANDBOX (cutbox-door.mjs). By AI agents, Wed Nov 11 2026. No macro, syntax, notation, axiom, sorry.
-/
import Derived.Test.YtnmkbnfidjoljaaDoorRows
import Derived.LaidByTextLater
import Derived.SevenTiedAt
import Derived.LaidSub
import Derived.LaidOnce
namespace Go.Proofs.YtnmkbnfidjoljaaDoor
open Go
set_option maxRecDepth 100000
theorem seatTie1 : Tryd.prog.laidByTextLater [("coffret/record.none", Rows.laid_coffret_record_none), ("coffret/record.id", Rows.laid_coffret_record_id), ("coffret/record.queue", Rows.laid_coffret_record_queue), ("coffret/record.when", Rows.laid_coffret_record_when), ("coffret/record.limit", Rows.laid_coffret_record_limit), ("coffret/record.many", Rows.laid_coffret_record_many), ("coffret/record.late", Rows.laid_coffret_record_late)] [.data, .data, .data, .data, .data, .data, .data] true :=
  Program.laidByTextLater_by_one 44 8 3 (by kernel_rfl) (by kernel_rfl) (by kernel_rfl) (by kernel_rfl) (by kernel_rfl) (by kernel_rfl) (fun _ _ => by kernel_rfl)
theorem noOwnUnsafe : Tryd.pinned.checked.prog.headLifts.contains "ownunsafe" = false := by kernel_rfl
theorem tie : Tryd.prog.laidByTextLater [("coffret/record.none", Rows.laid_coffret_record_none), ("coffret/record.id", Rows.laid_coffret_record_id), ("coffret/record.queue", Rows.laid_coffret_record_queue), ("coffret/record.when", Rows.laid_coffret_record_when), ("coffret/record.limit", Rows.laid_coffret_record_limit), ("coffret/record.many", Rows.laid_coffret_record_many), ("coffret/record.late", Rows.laid_coffret_record_late)] [.data, .data, .data, .data, .data, .data, .data] true :=
  Program.laidByTextLater.sub seatTie1 ["coffret/record.none", "coffret/record.id", "coffret/record.queue", "coffret/record.when", "coffret/record.limit", "coffret/record.many", "coffret/record.late"] (by kernel_rfl) (by kernel_rfl)
theorem snapDoes_row_tie : Rows.snapDoesRow.laidByTextAt .later Tryd.pinned [.data, .data, .data, .data, .data, .data, .data] true :=
  OpenClaim.laidByTextAt_later rfl rfl tie noOwnUnsafe
theorem snapState_row_tie : Rows.snapStateRow.laidByTextAt .later Tryd.pinned [.data, .data, .data, .data, .data, .data, .data] true :=
  OpenClaim.laidByTextAt_later rfl rfl tie noOwnUnsafe
theorem snapRefuses_row_tie : Rows.snapRefusesRow.laidByTextAt .later Tryd.pinned [.data, .data, .data, .data, .data, .data, .data] true :=
  OpenClaim.laidByTextAt_later rfl rfl tie noOwnUnsafe
theorem snapGoes_row_tie : Rows.snapGoesRow.laidByTextAt .later Tryd.pinned [.data, .data, .data, .data, .data, .data, .data] true :=
  OpenClaim.laidByTextAt_later rfl rfl tie noOwnUnsafe
theorem snapLoses_row_tie : Rows.snapLosesRow.laidByTextAt .later Tryd.pinned [.data, .data, .data, .data, .data, .data, .data] true :=
  OpenClaim.laidByTextAt_later rfl rfl tie noOwnUnsafe
theorem snapDoesUpto_row_tie : Rows.snapDoesUptoRow.laidByTextAt .later Tryd.pinned [.data, .data, .data, .data, .data, .data, .data] true :=
  OpenClaim.laidByTextAt_later rfl rfl tie noOwnUnsafe
theorem snapStateUpto_row_tie : Rows.snapStateUptoRow.laidByTextAt .later Tryd.pinned [.data, .data, .data, .data, .data, .data, .data] true :=
  OpenClaim.laidByTextAt_later rfl rfl tie noOwnUnsafe
theorem snapRefusesUpto_row_tie : Rows.snapRefusesUptoRow.laidByTextAt .later Tryd.pinned [.data, .data, .data, .data, .data, .data, .data] true :=
  OpenClaim.laidByTextAt_later rfl rfl tie noOwnUnsafe
theorem snapGoesUpto_row_tie : Rows.snapGoesUptoRow.laidByTextAt .later Tryd.pinned [.data, .data, .data, .data, .data, .data, .data] true :=
  OpenClaim.laidByTextAt_later rfl rfl tie noOwnUnsafe
theorem snapLosesUpto_row_tie : Rows.snapLosesUptoRow.laidByTextAt .later Tryd.pinned [.data, .data, .data, .data, .data, .data, .data] true :=
  OpenClaim.laidByTextAt_later rfl rfl tie noOwnUnsafe
end Go.Proofs.YtnmkbnfidjoljaaDoor
