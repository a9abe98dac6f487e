/- A part of the proof. -/
import Derived.Test.YthlnefddiceoiaaGreatDoorCards
import Derived.KernelRfl
set_option linter.unusedSimpArgs false
set_option linter.unusedVariables false
set_option linter.unusedSectionVars false
namespace Go.Proofs.YthlnefddiceoiaaGreatDoor
open Go
set_option maxRecDepth 100000
theorem ADM:false=Rows.reachTurnedRow.goesBy Tryz.prog:=by kernel_rfl
end Go.Proofs.YthlnefddiceoiaaGreatDoor
