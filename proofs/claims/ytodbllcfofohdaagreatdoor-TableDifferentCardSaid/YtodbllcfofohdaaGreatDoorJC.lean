/- A part of the proof: R2K3. -/
import Derived.Test.YtodbllcfofohdaaGreatDoorJA
set_option linter.unusedSimpArgs false
set_option linter.unusedVariables false
/- What both cards ask of the program. -/
namespace Go.Proofs.YtodbllcfofohdaaGreatDoor
open Go Go.ChangeShapes Go.WideShapes Go.ChangeAt Go.WideMaps Go.WideElems Go.RowKit
set_option maxRecDepth 100000
theorem mainIs : Tryz.prog.mainIs = some (true, "8cb5988929245bebe50bd9f89b6912c212c56d026877b61f1d1acd2f2291d2f5".toList) := by kernel_rfl
theorem looksTrue : true = Tryz.prog.looks [] := by kernel_rfl
theorem noStand24 : Tryz.prog.wantsStandIn 24 = false := by kernel_rfl
theorem pj2 : mapsRowed Tryz.prog = true := by kernel_rfl
theorem pj6 : (Tryz.prog.stops == []) = true := by kernel_rfl
theorem pj8 : (Tryz.prog.stopKnobs == []) = true := by kernel_rfl
theorem pj24 : Tryz.prog.stopsHeard = true := by kernel_rfl
theorem pj25 : Tryz.prog.mayEnter = true := by kernel_rfl
end Go.Proofs.YtodbllcfofohdaaGreatDoor
