/- A part of the proof. -/
import Derived.Test.YtclmacpbedkelaaGreatDoorUJ
set_option linter.unusedSimpArgs false
set_option linter.unusedVariables false
set_option linter.unusedSectionVars false
namespace Go.Proofs.YtclmacpbedkelaaGreatDoor
open Go Go.ChangeShapes Go.WideShapes Go.ChangeAt Go.WideMaps Go.WideElems Go.RowKit
set_option maxRecDepth 100000
theorem mainIs:Tryz.prog.mainIs=some (true, "2146f91b4b15616b9c98d9ca1f1a03818f641d63267ce7c40dfc0f0bb2a35073".toList):=by kernel_rfl
theorem Tu:true=Tryz.prog.looks []:=by kernel_rfl
theorem Tv:Tryz.prog.wantsStandIn 22=false:=by kernel_rfl
theorem L5:Tryz.prog.wantsStandIn 23=false:=by kernel_rfl
theorem Tw:Tryz.prog.wantsStandIn 27=false:=by kernel_rfl
theorem VJ:Tryz.prog.wantsStandIn 4=false:=by kernel_rfl
theorem pj2:mapsRowed Tryz.prog=true:=by kernel_rfl
theorem pj6:(Tryz.prog.stops==[])=true:=by kernel_rfl
theorem pj8:(Tryz.prog.stopKnobs==[])=true:=by kernel_rfl
theorem ADV:Tryz.prog.stopsHeard=true:=by kernel_rfl
theorem ADW:Tryz.prog.mayEnter=true:=by kernel_rfl
end Go.Proofs.YtclmacpbedkelaaGreatDoor
