/- A part of the proof. -/
import Derived.Test.YtfkknpebhlaaeaaGreatDoorXJ
set_option linter.unusedSimpArgs false
set_option linter.unusedVariables false
set_option linter.unusedSectionVars false
namespace Go.Proofs.YtfkknpebhlaaeaaGreatDoor
open Go Go.ChangeShapes Go.WideShapes Go.ChangeAt Go.WideMaps Go.WideElems Go.RowKit
set_option maxRecDepth 100000
theorem jA0:Rows.reachAllRow.wf (OpenSpec.ofChange Rows.reachAllSpec)=true:=by kernel_rfl
theorem jA3:Tryz.f3.params.all (Tryz.prog.readableRec ·)=true:=by kernel_rfl
theorem jA4:namedTie Tryz.prog Rows.reachAllRow.named Rows.reachAllSpec.vars=true:=by kernel_rfl
theorem jA5:(Rows.reachAllRow.stops==[])=true:=by kernel_rfl
theorem jA7:(Rows.reachAllRow.knobs==[])=true:=by kernel_rfl
theorem jA9:(Rows.reachAllRow.inPlace==Tryz.prog.inPlace 3)=true:=by kernel_rfl
theorem ADj:(Rows.reachAllRow.unfollowed==Tryz.prog.unfollowed 3)=true:=by kernel_rfl
theorem ADk:(Rows.reachAllRow.recurses==Tryz.prog.recurses 3)=true:=by kernel_rfl
theorem ADl:(Rows.reachAllRow.named==Tryz.prog.varsNamed 3)=true:=by kernel_rfl
theorem ADm:(Rows.reachAllRow.maps==(Tryz.f3.params.toList++Rows.reachAllSpec.plain.varTypes Tryz.prog).any (Tryz.prog.mapsRec ·))=true:=by kernel_rfl
theorem ADn:(Rows.reachAllRow.ifaces==(Tryz.f3.params.toList++Rows.reachAllSpec.plain.varTypes Tryz.prog).any (Tryz.prog.ifacesRec ·))=true:=by kernel_rfl
theorem ADo:(Rows.reachAllRow.mapsOut==Tryz.prog.mapsAmong Tryz.f3.resultTypes.toList)=true:=by kernel_rfl
theorem ADp:(Rows.reachAllRow.loops==(Tryz.f3.params.toList++Rows.reachAllSpec.plain.varTypes Tryz.prog).any (Tryz.prog.loopsFrom ·))=true:=by kernel_rfl
theorem ADq:(Rows.reachAllRow.wideKeys==(Tryz.f3.params.toList++Rows.reachAllSpec.plain.varTypes Tryz.prog++Tryz.f3.resultTypes.toList).any (Tryz.prog.wideKeysFrom ·))=true:=by kernel_rfl
theorem ADr:Rows.reachAllSpec.vars.all (Tryz.prog.varReadable ·)=true:=by kernel_rfl
theorem ADs:Tryz.f3.resultTypes.all (fun t=>Tryz.prog.readableRec t && decide (t<Tryz.prog.types.size))=true:=by kernel_rfl
theorem ADt:(Rows.reachAllRow.ifacesOut==Tryz.f3.resultTypes.toList.any (Tryz.prog.ifacesRec ·))=true:=by kernel_rfl
theorem ADu:(Rows.reachAllRow.loopsOut==Tryz.f3.resultTypes.toList.any (Tryz.prog.loopsFrom ·))=true:=by kernel_rfl
theorem ADv:(Rows.reachAllRow.plainKeys==Tryz.prog.plainKeys)=true:=by kernel_rfl
theorem ADw:Rows.reachAllRow.shortTexts.isNone=true:=by kernel_rfl
theorem ADx:(Rows.reachAllRow.lifted==Tryz.prog.liftsFinal)=true:=by kernel_rfl
theorem ADy:(Tryz.prog.make==some Rows.reachAllRow.make)=true:=by kernel_rfl
theorem ADz:(Rows.reachAllRow.pinned==Rows.reachAllRow.pinnedBy)=true:=by kernel_rfl
theorem AD0:(Rows.reachAllRow.veiled==(Tryz.f3.params.toList++Rows.reachAllSpec.plain.varTypes Tryz.prog++Tryz.f3.resultTypes.toList).any (Tryz.prog.veiledRec ·))=true:=by kernel_rfl
theorem AD1:Rows.reachAllRow.veiledFits Tryz.prog Tryz.f3.params.toList (Tryz.f3.params.toList++Rows.reachAllSpec.plain.varTypes Tryz.prog++Tryz.f3.resultTypes.toList)=true:=by kernel_rfl
theorem Yu:joinedFacts Tryz.prog 3 Tryz.f3 Rows.reachAllSpec Rows.reachAllRow=true:=by
 unfold joinedFacts;simp only [Bool.and_eq_true];exact ⟨⟨⟨⟨⟨⟨⟨⟨⟨⟨⟨⟨⟨⟨⟨⟨⟨⟨⟨⟨⟨⟨⟨⟨⟨⟨⟨⟨⟨⟨⟨jA0,laidOut⟩,pj2⟩,jA3⟩,jA4⟩,jA5⟩,pj6⟩,jA7⟩,pj8⟩,jA9⟩,ADj⟩,ADk⟩,ADl⟩,ADm⟩,ADn⟩,ADo⟩,ADp⟩,ADq⟩,ADr⟩,ADs⟩,ADt⟩,ADu⟩,ADv⟩,ADw⟩,ADh⟩,ADi⟩,ADx⟩,ADy⟩,(by kernel_rfl)⟩,ADz⟩,AD0⟩,AD1⟩
theorem ADK:Tryz.f3.isInstance Tryz.prog Rows.reachAllRow.origin Rows.reachAllRow.targs:=of_decide_eq_true (by kernel_rfl)
theorem ADL:Tryz.f3.isWrapper Tryz.prog Rows.reachAllRow.wrapper Rows.reachAllRow.mainSum:=by
 unfold Func.isWrapper; rw [if_neg (of_decide_eq_false (by kernel_rfl))]; exact ⟨rfl,rfl⟩
theorem namedA:Tryz.prog.funcNamed Rows.reachAllRow.func=some 3:=by kernel_rfl
theorem Yv:Rows.reachAllRow.wfByText (OpenSpec.ofChange Rows.reachAllSpec)=true:=by kernel_rfl
end Go.Proofs.YtfkknpebhlaaeaaGreatDoor
