/- A part of the proof. -/
import Derived.Test.YthlnefddiceoiaaGreatDoorWI
set_option linter.unusedSimpArgs false
set_option linter.unusedVariables false
set_option linter.unusedSectionVars false
namespace Go.Proofs.YthlnefddiceoiaaGreatDoor
open Go Go.ChangeShapes Go.WideShapes Go.ChangeAt Go.WideMaps Go.WideElems Go.RowKit
set_option maxRecDepth 100000
theorem mainIs:Tryz.prog.mainIs=some (true, "831e9b27b0bedea84bfb9d9f8d14bfcaff8fd85b90a35e2f8748181859377dfb".toList):=by kernel_rfl
theorem Vt:true=Tryz.prog.looks []:=by kernel_rfl
theorem AGD:Tryz.prog.wantsStandIn 3=false:=by kernel_rfl
theorem Vu:Tryz.prog.wantsStandIn 25=false:=by kernel_rfl
theorem pj2:mapsRowed Tryz.prog=true:=by kernel_rfl
theorem pj6:(Tryz.prog.stops==[])=true:=by kernel_rfl
theorem pj8:(Tryz.prog.stopKnobs==[])=true:=by kernel_rfl
theorem ADh:Tryz.prog.stopsHeard=true:=by kernel_rfl
theorem ADi:Tryz.prog.mayEnter=true:=by kernel_rfl
end Go.Proofs.YthlnefddiceoiaaGreatDoor
