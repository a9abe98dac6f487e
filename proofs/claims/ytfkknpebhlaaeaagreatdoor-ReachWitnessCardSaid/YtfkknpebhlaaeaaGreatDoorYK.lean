/- A part of the proof. -/
import Derived.Test.YtfkknpebhlaaeaaGreatDoorYJ
set_option linter.unusedSimpArgs false
set_option linter.unusedVariables false
set_option linter.unusedSectionVars false
namespace Go.Proofs.YtfkknpebhlaaeaaGreatDoor
open Go Go.ChangeShapes Go.WideShapes Go.ChangeAt Go.WideMaps Go.WideElems Go.RowKit
set_option maxRecDepth 100000
theorem jA0:Rows.reachWitnessRow.wf (OpenSpec.ofChange Rows.reachWitnessSpec)=true:=by kernel_rfl
theorem jA3:Tryz.f4.params.all (Tryz.prog.readableRec ·)=true:=by kernel_rfl
theorem jA4:namedTie Tryz.prog Rows.reachWitnessRow.named Rows.reachWitnessSpec.vars=true:=by kernel_rfl
theorem jA5:(Rows.reachWitnessRow.stops==[])=true:=by kernel_rfl
theorem jA7:(Rows.reachWitnessRow.knobs==[])=true:=by kernel_rfl
theorem jA9:(Rows.reachWitnessRow.inPlace==Tryz.prog.inPlace 4)=true:=by kernel_rfl
theorem ADj:(Rows.reachWitnessRow.unfollowed==Tryz.prog.unfollowed 4)=true:=by kernel_rfl
theorem ADk:(Rows.reachWitnessRow.recurses==Tryz.prog.recurses 4)=true:=by kernel_rfl
theorem ADl:(Rows.reachWitnessRow.named==Tryz.prog.varsNamed 4)=true:=by kernel_rfl
theorem ADm:(Rows.reachWitnessRow.maps==(Tryz.f4.params.toList++Rows.reachWitnessSpec.plain.varTypes Tryz.prog).any (Tryz.prog.mapsRec ·))=true:=by kernel_rfl
theorem ADn:(Rows.reachWitnessRow.ifaces==(Tryz.f4.params.toList++Rows.reachWitnessSpec.plain.varTypes Tryz.prog).any (Tryz.prog.ifacesRec ·))=true:=by kernel_rfl
theorem ADo:(Rows.reachWitnessRow.mapsOut==Tryz.prog.mapsAmong Tryz.f4.resultTypes.toList)=true:=by kernel_rfl
theorem ADp:(Rows.reachWitnessRow.loops==(Tryz.f4.params.toList++Rows.reachWitnessSpec.plain.varTypes Tryz.prog).any (Tryz.prog.loopsFrom ·))=true:=by kernel_rfl
theorem ADq:(Rows.reachWitnessRow.wideKeys==(Tryz.f4.params.toList++Rows.reachWitnessSpec.plain.varTypes Tryz.prog++Tryz.f4.resultTypes.toList).any (Tryz.prog.wideKeysFrom ·))=true:=by kernel_rfl
theorem ADr:Rows.reachWitnessSpec.vars.all (Tryz.prog.varReadable ·)=true:=by kernel_rfl
theorem ADs:Tryz.f4.resultTypes.all (fun t=>Tryz.prog.readableRec t && decide (t<Tryz.prog.types.size))=true:=by kernel_rfl
theorem ADt:(Rows.reachWitnessRow.ifacesOut==Tryz.f4.resultTypes.toList.any (Tryz.prog.ifacesRec ·))=true:=by kernel_rfl
theorem ADu:(Rows.reachWitnessRow.loopsOut==Tryz.f4.resultTypes.toList.any (Tryz.prog.loopsFrom ·))=true:=by kernel_rfl
theorem ADv:(Rows.reachWitnessRow.plainKeys==Tryz.prog.plainKeys)=true:=by kernel_rfl
theorem ADw:Rows.reachWitnessRow.shortTexts.isNone=true:=by kernel_rfl
theorem ADx:(Rows.reachWitnessRow.lifted==Tryz.prog.liftsFinal)=true:=by kernel_rfl
theorem ADy:(Tryz.prog.make==some Rows.reachWitnessRow.make)=true:=by kernel_rfl
theorem ADz:(Rows.reachWitnessRow.pinned==Rows.reachWitnessRow.pinnedBy)=true:=by kernel_rfl
theorem AD0:(Rows.reachWitnessRow.veiled==(Tryz.f4.params.toList++Rows.reachWitnessSpec.plain.varTypes Tryz.prog++Tryz.f4.resultTypes.toList).any (Tryz.prog.veiledRec ·))=true:=by kernel_rfl
theorem AD1:Rows.reachWitnessRow.veiledFits Tryz.prog Tryz.f4.params.toList (Tryz.f4.params.toList++Rows.reachWitnessSpec.plain.varTypes Tryz.prog++Tryz.f4.resultTypes.toList)=true:=by kernel_rfl
theorem Yu:joinedFacts Tryz.prog 4 Tryz.f4 Rows.reachWitnessSpec Rows.reachWitnessRow=true:=by
 unfold joinedFacts;simp only [Bool.and_eq_true];exact ⟨⟨⟨⟨⟨⟨⟨⟨⟨⟨⟨⟨⟨⟨⟨⟨⟨⟨⟨⟨⟨⟨⟨⟨⟨⟨⟨⟨⟨⟨⟨jA0,laidOut⟩,pj2⟩,jA3⟩,jA4⟩,jA5⟩,pj6⟩,jA7⟩,pj8⟩,jA9⟩,ADj⟩,ADk⟩,ADl⟩,ADm⟩,ADn⟩,ADo⟩,ADp⟩,ADq⟩,ADr⟩,ADs⟩,ADt⟩,ADu⟩,ADv⟩,ADw⟩,ADh⟩,ADi⟩,ADx⟩,ADy⟩,(by kernel_rfl)⟩,ADz⟩,AD0⟩,AD1⟩
theorem ADK:Tryz.f4.isInstance Tryz.prog Rows.reachWitnessRow.origin Rows.reachWitnessRow.targs:=of_decide_eq_true (by kernel_rfl)
theorem ADL:Tryz.f4.isWrapper Tryz.prog Rows.reachWitnessRow.wrapper Rows.reachWitnessRow.mainSum:=by
 unfold Func.isWrapper; rw [if_neg (of_decide_eq_false (by kernel_rfl))]; exact ⟨rfl,rfl⟩
theorem namedA:Tryz.prog.funcNamed Rows.reachWitnessRow.func=some 4:=by kernel_rfl
theorem Yv:Rows.reachWitnessRow.wfByText (OpenSpec.ofChange Rows.reachWitnessSpec)=true:=by kernel_rfl
end Go.Proofs.YtfkknpebhlaaeaaGreatDoor
