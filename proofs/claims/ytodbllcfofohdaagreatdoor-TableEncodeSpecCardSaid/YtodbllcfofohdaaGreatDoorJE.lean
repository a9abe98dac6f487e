/- A part of the proof: R2K4. -/
import Derived.Test.YtodbllcfofohdaaGreatDoorJA
set_option linter.unusedSimpArgs false
set_option linter.unusedVariables false
/- The first law: its row goes by nothing that the card would tell. -/
namespace Go.Proofs.YtodbllcfofohdaaGreatDoor
open Go
set_option maxRecDepth 100000
theorem goes3 : false = Rows.tableEncodeSpecRow.goesBy Tryz.prog := by kernel_rfl
end Go.Proofs.YtodbllcfofohdaaGreatDoor
