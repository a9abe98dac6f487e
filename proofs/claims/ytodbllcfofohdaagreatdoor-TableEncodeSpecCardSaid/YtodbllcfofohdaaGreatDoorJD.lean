/- A part of the proof: R2K1. -/
import Derived.Test.YtodbllcfofohdaaGreatDoorJC
set_option linter.unusedSimpArgs false
set_option linter.unusedVariables false
/- The closed facts of the first law's row. -/
namespace Go.Proofs.YtodbllcfofohdaaGreatDoor
open Go Go.ChangeShapes Go.WideShapes Go.ChangeAt Go.WideMaps Go.WideElems Go.RowKit
set_option maxRecDepth 100000
theorem jA0 : Rows.tableEncodeSpecRow.wf (OpenSpec.ofChange Rows.tableEncodeSpecSpec) = true := by kernel_rfl
theorem jA3 : Tryz.f3.params.all (Tryz.prog.readableRec ·) = true := by kernel_rfl
theorem jA4 : namedTie Tryz.prog Rows.tableEncodeSpecRow.named Rows.tableEncodeSpecSpec.vars = true := by kernel_rfl
theorem jA5 : (Rows.tableEncodeSpecRow.stops == []) = true := by kernel_rfl
theorem jA7 : (Rows.tableEncodeSpecRow.knobs == []) = true := by kernel_rfl
theorem jA9 : (Rows.tableEncodeSpecRow.inPlace == Tryz.prog.inPlace 3) = true := by kernel_rfl
theorem jA10 : (Rows.tableEncodeSpecRow.unfollowed == Tryz.prog.unfollowed 3) = true := by kernel_rfl
theorem jA11 : (Rows.tableEncodeSpecRow.recurses == Tryz.prog.recurses 3) = true := by kernel_rfl
theorem jA12 : (Rows.tableEncodeSpecRow.named == Tryz.prog.varsNamed 3) = true := by kernel_rfl
theorem jA13 : (Rows.tableEncodeSpecRow.maps == (Tryz.f3.params.toList ++ Rows.tableEncodeSpecSpec.plain.varTypes Tryz.prog).any (Tryz.prog.mapsRec ·)) = true := by kernel_rfl
theorem jA14 : (Rows.tableEncodeSpecRow.ifaces == (Tryz.f3.params.toList ++ Rows.tableEncodeSpecSpec.plain.varTypes Tryz.prog).any (Tryz.prog.ifacesRec ·)) = true := by kernel_rfl
theorem jA15 : (Rows.tableEncodeSpecRow.mapsOut == Tryz.prog.mapsAmong Tryz.f3.resultTypes.toList) = true := by kernel_rfl
theorem jA16 : (Rows.tableEncodeSpecRow.loops == (Tryz.f3.params.toList ++ Rows.tableEncodeSpecSpec.plain.varTypes Tryz.prog).any (Tryz.prog.loopsFrom ·)) = true := by kernel_rfl
theorem jA17 : (Rows.tableEncodeSpecRow.wideKeys == (Tryz.f3.params.toList ++ Rows.tableEncodeSpecSpec.plain.varTypes Tryz.prog ++ Tryz.f3.resultTypes.toList).any (Tryz.prog.wideKeysFrom ·)) = true := by kernel_rfl
theorem jA18 : Rows.tableEncodeSpecSpec.vars.all (Tryz.prog.varReadable ·) = true := by kernel_rfl
theorem jA19 : Tryz.f3.resultTypes.all (fun t => Tryz.prog.readableRec t && decide (t < Tryz.prog.types.size)) = true := by kernel_rfl
theorem jA20 : (Rows.tableEncodeSpecRow.ifacesOut == Tryz.f3.resultTypes.toList.any (Tryz.prog.ifacesRec ·)) = true := by kernel_rfl
theorem jA21 : (Rows.tableEncodeSpecRow.loopsOut == Tryz.f3.resultTypes.toList.any (Tryz.prog.loopsFrom ·)) = true := by kernel_rfl
theorem jA22 : (Rows.tableEncodeSpecRow.plainKeys == Tryz.prog.plainKeys) = true := by kernel_rfl
theorem jA23 : Rows.tableEncodeSpecRow.shortTexts.isNone = true := by kernel_rfl
theorem jA26 : (Rows.tableEncodeSpecRow.lifted == Tryz.prog.liftsFinal) = true := by kernel_rfl
theorem jA27 : (Tryz.prog.make == some Rows.tableEncodeSpecRow.make) = true := by kernel_rfl
theorem jA29 : (Rows.tableEncodeSpecRow.pinned == Rows.tableEncodeSpecRow.pinnedBy) = true := by kernel_rfl
theorem jA30 : (Rows.tableEncodeSpecRow.veiled == (Tryz.f3.params.toList ++ Rows.tableEncodeSpecSpec.plain.varTypes Tryz.prog ++ Tryz.f3.resultTypes.toList).any (Tryz.prog.veiledRec ·)) = true := by kernel_rfl
theorem jA31 : Rows.tableEncodeSpecRow.veiledFits Tryz.prog Tryz.f3.params.toList (Tryz.f3.params.toList ++ Rows.tableEncodeSpecSpec.plain.varTypes Tryz.prog ++ Tryz.f3.resultTypes.toList) = true := by kernel_rfl
theorem closedA : joinedFacts Tryz.prog 3 Tryz.f3 Rows.tableEncodeSpecSpec Rows.tableEncodeSpecRow = true := by
  unfold joinedFacts
  simp only [Bool.and_eq_true]
  exact ⟨⟨⟨⟨⟨⟨⟨⟨⟨⟨⟨⟨⟨⟨⟨⟨⟨⟨⟨⟨⟨⟨⟨⟨⟨⟨⟨⟨⟨⟨⟨jA0, laidOut⟩, pj2⟩, jA3⟩, jA4⟩, jA5⟩, pj6⟩, jA7⟩, pj8⟩, jA9⟩, jA10⟩, jA11⟩, jA12⟩, jA13⟩, jA14⟩, jA15⟩, jA16⟩, jA17⟩, jA18⟩, jA19⟩, jA20⟩, jA21⟩, jA22⟩, jA23⟩, pj24⟩, pj25⟩, jA26⟩, jA27⟩, (by kernel_rfl)⟩, jA29⟩, jA30⟩, jA31⟩
theorem instA : Tryz.f3.isInstance Tryz.prog Rows.tableEncodeSpecRow.origin Rows.tableEncodeSpecRow.targs := of_decide_eq_true (by kernel_rfl)
theorem wrapA : Tryz.f3.isWrapper Tryz.prog Rows.tableEncodeSpecRow.wrapper Rows.tableEncodeSpecRow.mainSum := by
  unfold Func.isWrapper; rw [if_neg (of_decide_eq_false (by kernel_rfl))]; exact ⟨rfl, rfl⟩
theorem namedA : Tryz.prog.funcNamed Rows.tableEncodeSpecRow.func = some 3 := by kernel_rfl
theorem wfText3 : Rows.tableEncodeSpecRow.wfByText (OpenSpec.ofChange Rows.tableEncodeSpecSpec) = true := by kernel_rfl
end Go.Proofs.YtodbllcfofohdaaGreatDoor
