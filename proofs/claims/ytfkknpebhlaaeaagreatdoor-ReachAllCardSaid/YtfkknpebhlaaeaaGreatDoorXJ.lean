/- A part of the proof. -/
import Derived.Test.YtfkknpebhlaaeaaGreatDoorXI
set_option linter.unusedSimpArgs false
set_option linter.unusedVariables false
set_option linter.unusedSectionVars false
namespace Go.Proofs.YtfkknpebhlaaeaaGreatDoor
open Go Go.ChangeShapes Go.WideShapes Go.ChangeAt Go.WideMaps Go.WideElems Go.RowKit
set_option maxRecDepth 100000
theorem mainIs:Tryz.prog.mainIs=some (true, "565b80231357d53c233290a8952e0ff5b78ac4c43fb942a2d9f97e1e47cc344a".toList):=by kernel_rfl
theorem Vt:true=Tryz.prog.looks []:=by kernel_rfl
theorem Vu:Tryz.prog.wantsStandIn 25=false:=by kernel_rfl
theorem pj2:mapsRowed Tryz.prog=true:=by kernel_rfl
theorem pj6:(Tryz.prog.stops==[])=true:=by kernel_rfl
theorem pj8:(Tryz.prog.stopKnobs==[])=true:=by kernel_rfl
theorem ADh:Tryz.prog.stopsHeard=true:=by kernel_rfl
theorem ADi:Tryz.prog.mayEnter=true:=by kernel_rfl
end Go.Proofs.YtfkknpebhlaaeaaGreatDoor
