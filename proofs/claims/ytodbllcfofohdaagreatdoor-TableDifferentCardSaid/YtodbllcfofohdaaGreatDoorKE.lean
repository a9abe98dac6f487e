/- A part of the proof: R2M3. -/
import Derived.Test.YtodbllcfofohdaaGreatDoorJA
set_option linter.unusedSimpArgs false
set_option linter.unusedVariables false
/- The second law: its row goes by nothing that the card would tell. -/
namespace Go.Proofs.YtodbllcfofohdaaGreatDoor
open Go Go.ChangeShapes Go.WideShapes Go.ChangeAt Go.WideMaps Go.WideElems Go.RowKit
set_option maxRecDepth 100000
theorem goes4 : false = Rows.tableDifferentRow.goesBy Tryz.prog := by kernel_rfl
end Go.Proofs.YtodbllcfofohdaaGreatDoor
