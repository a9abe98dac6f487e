/- A part of the proof. -/
import Derived.Test.YtclmacpbedkelaaGreatDoorSI
import Derived.Test.YtclmacpbedkelaaGreatDoorSK
set_option linter.unusedSimpArgs false
set_option linter.unusedVariables false
set_option linter.unusedSectionVars false
namespace Go.Proofs.YtclmacpbedkelaaGreatDoor
open Go
set_option maxRecDepth 100000
theorem ACh:false=Rows.tableSumsUptoRow.goesBy Tryz.prog:=by kernel_rfl
end Go.Proofs.YtclmacpbedkelaaGreatDoor
