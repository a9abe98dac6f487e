/- A part of the proof. -/
import Derived.Test.YtgjmcepdognhlaaGreatDoorCards
import Derived.KernelRfl
set_option linter.unusedSimpArgs false
set_option linter.unusedVariables false
set_option linter.unusedSectionVars false
namespace Go.Proofs.YtgjmcepdognhlaaGreatDoor
open Go
set_option maxRecDepth 100000
theorem ADM:false=Rows.reachPlacesRow.goesBy Tryz.prog:=by kernel_rfl
end Go.Proofs.YtgjmcepdognhlaaGreatDoor
