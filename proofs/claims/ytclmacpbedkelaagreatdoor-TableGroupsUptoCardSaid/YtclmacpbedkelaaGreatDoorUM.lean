/- A part of the proof. -/
import Derived.Test.YtclmacpbedkelaaGreatDoorUJ
import Derived.Test.YtclmacpbedkelaaGreatDoorUL
set_option linter.unusedSimpArgs false
set_option linter.unusedVariables false
set_option linter.unusedSectionVars false
namespace Go.Proofs.YtclmacpbedkelaaGreatDoor
open Go
set_option maxRecDepth 100000
theorem AGT:false=Rows.tableGroupsUptoRow.goesBy Tryz.prog:=by kernel_rfl
end Go.Proofs.YtclmacpbedkelaaGreatDoor
