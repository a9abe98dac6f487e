/- A part of the proof: R2M2. -/
import Derived.Test.YtodbllcfofohdaaGreatDoorJC
set_option linter.unusedSimpArgs false
set_option linter.unusedVariables false
/- The closed facts of the second law's row. -/
namespace Go.Proofs.YtodbllcfofohdaaGreatDoor
open Go Go.ChangeShapes Go.WideShapes Go.ChangeAt Go.WideMaps Go.WideElems Go.RowKit
set_option maxRecDepth 100000
theorem jB0 : Rows.tableDifferentRow.wf (OpenSpec.ofChange Rows.tableDifferentSpec) = true := by kernel_rfl
theorem jB3 : Tryz.f4.params.all (Tryz.prog.readableRec ·) = true := by kernel_rfl
theorem jB4 : namedTie Tryz.prog Rows.tableDifferentRow.named Rows.tableDifferentSpec.vars = true := by kernel_rfl
theorem jB5 : (Rows.tableDifferentRow.stops == []) = true := by kernel_rfl
theorem jB7 : (Rows.tableDifferentRow.knobs == []) = true := by kernel_rfl
theorem jB9 : (Rows.tableDifferentRow.inPlace == Tryz.prog.inPlace 4) = true := by kernel_rfl
theorem jB10 : (Rows.tableDifferentRow.unfollowed == Tryz.prog.unfollowed 4) = true := by kernel_rfl
theorem jB11 : (Rows.tableDifferentRow.recurses == Tryz.prog.recurses 4) = true := by kernel_rfl
theorem jB12 : (Rows.tableDifferentRow.named == Tryz.prog.varsNamed 4) = true := by kernel_rfl
theorem jB13 : (Rows.tableDifferentRow.maps == (Tryz.f4.params.toList ++ Rows.tableDifferentSpec.plain.varTypes Tryz.prog).any (Tryz.prog.mapsRec ·)) = true := by kernel_rfl
theorem jB14 : (Rows.tableDifferentRow.ifaces == (Tryz.f4.params.toList ++ Rows.tableDifferentSpec.plain.varTypes Tryz.prog).any (Tryz.prog.ifacesRec ·)) = true := by kernel_rfl
theorem jB15 : (Rows.tableDifferentRow.mapsOut == Tryz.prog.mapsAmong Tryz.f4.resultTypes.toList) = true := by kernel_rfl
theorem jB16 : (Rows.tableDifferentRow.loops == (Tryz.f4.params.toList ++ Rows.tableDifferentSpec.plain.varTypes Tryz.prog).any (Tryz.prog.loopsFrom ·)) = true := by kernel_rfl
theorem jB17 : (Rows.tableDifferentRow.wideKeys == (Tryz.f4.params.toList ++ Rows.tableDifferentSpec.plain.varTypes Tryz.prog ++ Tryz.f4.resultTypes.toList).any (Tryz.prog.wideKeysFrom ·)) = true := by kernel_rfl
theorem jB18 : Rows.tableDifferentSpec.vars.all (Tryz.prog.varReadable ·) = true := by kernel_rfl
theorem jB19 : Tryz.f4.resultTypes.all (fun t => Tryz.prog.readableRec t && decide (t < Tryz.prog.types.size)) = true := by kernel_rfl
theorem jB20 : (Rows.tableDifferentRow.ifacesOut == Tryz.f4.resultTypes.toList.any (Tryz.prog.ifacesRec ·)) = true := by kernel_rfl
theorem jB21 : (Rows.tableDifferentRow.loopsOut == Tryz.f4.resultTypes.toList.any (Tryz.prog.loopsFrom ·)) = true := by kernel_rfl
theorem jB22 : (Rows.tableDifferentRow.plainKeys == Tryz.prog.plainKeys) = true := by kernel_rfl
theorem jB23 : Rows.tableDifferentRow.shortTexts.isNone = true := by kernel_rfl
theorem jB26 : (Rows.tableDifferentRow.lifted == Tryz.prog.liftsFinal) = true := by kernel_rfl
theorem jB27 : (Tryz.prog.make == some Rows.tableDifferentRow.make) = true := by kernel_rfl
theorem jB29 : (Rows.tableDifferentRow.pinned == Rows.tableDifferentRow.pinnedBy) = true := by kernel_rfl
theorem jB30 : (Rows.tableDifferentRow.veiled == (Tryz.f4.params.toList ++ Rows.tableDifferentSpec.plain.varTypes Tryz.prog ++ Tryz.f4.resultTypes.toList).any (Tryz.prog.veiledRec ·)) = true := by kernel_rfl
theorem jB31 : Rows.tableDifferentRow.veiledFits Tryz.prog Tryz.f4.params.toList (Tryz.f4.params.toList ++ Rows.tableDifferentSpec.plain.varTypes Tryz.prog ++ Tryz.f4.resultTypes.toList) = true := by kernel_rfl
theorem closedB : joinedFacts Tryz.prog 4 Tryz.f4 Rows.tableDifferentSpec Rows.tableDifferentRow = true := by
  unfold joinedFacts
  simp only [Bool.and_eq_true]
  exact ⟨⟨⟨⟨⟨⟨⟨⟨⟨⟨⟨⟨⟨⟨⟨⟨⟨⟨⟨⟨⟨⟨⟨⟨⟨⟨⟨⟨⟨⟨⟨jB0, laidOut⟩, pj2⟩, jB3⟩, jB4⟩, jB5⟩, pj6⟩, jB7⟩, pj8⟩, jB9⟩, jB10⟩, jB11⟩, jB12⟩, jB13⟩, jB14⟩, jB15⟩, jB16⟩, jB17⟩, jB18⟩, jB19⟩, jB20⟩, jB21⟩, jB22⟩, jB23⟩, pj24⟩, pj25⟩, jB26⟩, jB27⟩, (by kernel_rfl)⟩, jB29⟩, jB30⟩, jB31⟩
theorem instB : Tryz.f4.isInstance Tryz.prog Rows.tableDifferentRow.origin Rows.tableDifferentRow.targs := of_decide_eq_true (by kernel_rfl)
theorem wrapB : Tryz.f4.isWrapper Tryz.prog Rows.tableDifferentRow.wrapper Rows.tableDifferentRow.mainSum := by
  unfold Func.isWrapper; rw [if_neg (of_decide_eq_false (by kernel_rfl))]; exact ⟨rfl, rfl⟩
theorem namedB : Tryz.prog.funcNamed Rows.tableDifferentRow.func = some 4 := by kernel_rfl
theorem wfText4 : Rows.tableDifferentRow.wfByText (OpenSpec.ofChange Rows.tableDifferentSpec) = true := by kernel_rfl
end Go.Proofs.YtodbllcfofohdaaGreatDoor
