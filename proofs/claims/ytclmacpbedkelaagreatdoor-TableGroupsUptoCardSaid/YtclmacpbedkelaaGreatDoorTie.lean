/-
  DERIVED. GIVEN WITH THE SEED: THE PROGRAM's TIES (one call each: nine closed facts by the kernel) AND EACH ROW's TIE, after the 31st guide's Derived/Test/Toyas{Tie, Card}.lean. No idea stands in it: it is a product of the set-up. Laid BY PROGRAM, IN A SANDBOX (cutbox-door.mjs). By AI agents, Wed Nov 11 2026. No macro, syntax, notation, axiom, sorry.
-/
import Derived.Test.YtclmacpbedkelaaGreatDoorRows
import Derived.LaidByTextLater
import Derived.SevenTiedAt
import Derived.LaidSub
import Derived.LaidOnce
namespace Go.Proofs.YtclmacpbedkelaaGreatDoor
open Go
set_option maxRecDepth 100000
theorem seatTie1 : Tryz.prog.laidByTextLater [("math/bits.deBruijn32tab", Rows.laid_math_bits_deBruijn32tab), ("math/bits.deBruijn64tab", Rows.laid_math_bits_deBruijn64tab), ("internal/strconv.uint64pow10", Rows.laid_internal_strconv_uint64pow10), ("assize/typing.spans", Rows.laid_assize_typing_spans), ("assize/table.names", Rows.laid_assize_table_names)] [.data, .data, .data, .widerDeep, .widerDeep] true :=
  Program.laidByTextLater_by_one 38 8 65 (by kernel_rfl) (by kernel_rfl) (by kernel_rfl) (by kernel_rfl) (by kernel_rfl) (by kernel_rfl) (fun _ _ => by kernel_rfl)
theorem noOwnUnsafe : Tryz.pinned.checked.prog.headLifts.contains "ownunsafe" = false := by kernel_rfl
theorem tie : Tryz.prog.laidByTextLater [("math/bits.deBruijn32tab", Rows.laid_math_bits_deBruijn32tab), ("math/bits.deBruijn64tab", Rows.laid_math_bits_deBruijn64tab), ("internal/strconv.uint64pow10", Rows.laid_internal_strconv_uint64pow10), ("assize/typing.spans", Rows.laid_assize_typing_spans), ("assize/table.names", Rows.laid_assize_table_names)] [.data, .data, .data, .widerDeep, .widerDeep] true :=
  Program.laidByTextLater.sub seatTie1 ["math/bits.deBruijn32tab", "math/bits.deBruijn64tab", "internal/strconv.uint64pow10", "assize/typing.spans", "assize/table.names"] (by kernel_rfl) (by kernel_rfl)
theorem tableSums_row_tie : Rows.tableSumsRow.laidByTextAt .later Tryz.pinned [.data, .data, .data, .widerDeep, .widerDeep] true :=
  OpenClaim.laidByTextAt_later rfl rfl tie noOwnUnsafe
theorem tableFacts_row_tie : Rows.tableFactsRow.laidByTextAt .later Tryz.pinned [.data, .data, .data, .widerDeep, .widerDeep] true :=
  OpenClaim.laidByTextAt_later rfl rfl tie noOwnUnsafe
theorem tableOff_row_tie : Rows.tableOffRow.laidByTextAt .later Tryz.pinned [.data, .data, .data, .widerDeep, .widerDeep] true :=
  OpenClaim.laidByTextAt_later rfl rfl tie noOwnUnsafe
theorem tableGroups_row_tie : Rows.tableGroupsRow.laidByTextAt .later Tryz.pinned [.data, .data, .data, .widerDeep, .widerDeep] true :=
  OpenClaim.laidByTextAt_later rfl rfl tie noOwnUnsafe
theorem tableSumsUpto_row_tie : Rows.tableSumsUptoRow.laidByTextAt .later Tryz.pinned [.data, .data, .data, .widerDeep, .widerDeep] true :=
  OpenClaim.laidByTextAt_later rfl rfl tie noOwnUnsafe
theorem tableFactsUpto_row_tie : Rows.tableFactsUptoRow.laidByTextAt .later Tryz.pinned [.data, .data, .data, .widerDeep, .widerDeep] true :=
  OpenClaim.laidByTextAt_later rfl rfl tie noOwnUnsafe
theorem tableOffUpto_row_tie : Rows.tableOffUptoRow.laidByTextAt .later Tryz.pinned [.data, .data, .data, .widerDeep, .widerDeep] true :=
  OpenClaim.laidByTextAt_later rfl rfl tie noOwnUnsafe
theorem tableGroupsUpto_row_tie : Rows.tableGroupsUptoRow.laidByTextAt .later Tryz.pinned [.data, .data, .data, .widerDeep, .widerDeep] true :=
  OpenClaim.laidByTextAt_later rfl rfl tie noOwnUnsafe
end Go.Proofs.YtclmacpbedkelaaGreatDoor
