/- A part of the proof. -/
import Derived.Test.YtgjmcepdognhlaaGreatDoorPI
set_option linter.unusedSimpArgs false
set_option linter.unusedVariables false
set_option linter.unusedSectionVars false
namespace Go.Proofs.YtgjmcepdognhlaaGreatDoor
open Go Go.ChangeShapes Go.WideShapes Go.ChangeAt Go.WideMaps Go.WideElems Go.RowKit
set_option maxRecDepth 100000
theorem mainIs:Tryz.prog.mainIs=some (true, "cb9d6c6418dd2d5eb646f5125680023f46043f8c10da7ae2650b4f74e5d7b72d".toList):=by kernel_rfl
theorem Vt:true=Tryz.prog.looks []:=by kernel_rfl
theorem Vu:Tryz.prog.wantsStandIn 25=false:=by kernel_rfl
theorem pj2:mapsRowed Tryz.prog=true:=by kernel_rfl
theorem pj6:(Tryz.prog.stops==[])=true:=by kernel_rfl
theorem pj8:(Tryz.prog.stopKnobs==[])=true:=by kernel_rfl
theorem ADh:Tryz.prog.stopsHeard=true:=by kernel_rfl
theorem ADi:Tryz.prog.mayEnter=true:=by kernel_rfl
end Go.Proofs.YtgjmcepdognhlaaGreatDoor
