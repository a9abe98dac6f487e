/- A part of the proof. -/
import Derived.Test.YthlnefddiceoiaaGreatDoorVJ
set_option linter.unusedSimpArgs false
set_option linter.unusedVariables false
set_option linter.unusedSectionVars false
namespace Go.Proofs.YthlnefddiceoiaaGreatDoor
open Go Go.ChangeShapes Go.WideShapes Go.ChangeAt Go.WideMaps Go.WideElems Go.RowKit
set_option maxRecDepth 100000
theorem jA0:Rows.reachPlayedRow.wf (OpenSpec.ofChange Rows.reachPlayedSpec)=true:=by kernel_rfl
theorem jA3:Tryz.f4.params.all (Tryz.prog.readableRec ·)=true:=by kernel_rfl
theorem jA4:namedTie Tryz.prog Rows.reachPlayedRow.named Rows.reachPlayedSpec.vars=true:=by kernel_rfl
theorem jA5:(Rows.reachPlayedRow.stops==[])=true:=by kernel_rfl
theorem jA7:(Rows.reachPlayedRow.knobs==[])=true:=by kernel_rfl
theorem jA9:(Rows.reachPlayedRow.inPlace==Tryz.prog.inPlace 4)=true:=by kernel_rfl
theorem ADj:(Rows.reachPlayedRow.unfollowed==Tryz.prog.unfollowed 4)=true:=by kernel_rfl
theorem ADk:(Rows.reachPlayedRow.recurses==Tryz.prog.recurses 4)=true:=by kernel_rfl
theorem ADl:(Rows.reachPlayedRow.named==Tryz.prog.varsNamed 4)=true:=by kernel_rfl
theorem ADm:(Rows.reachPlayedRow.maps==(Tryz.f4.params.toList++Rows.reachPlayedSpec.plain.varTypes Tryz.prog).any (Tryz.prog.mapsRec ·))=true:=by kernel_rfl
theorem ADn:(Rows.reachPlayedRow.ifaces==(Tryz.f4.params.toList++Rows.reachPlayedSpec.plain.varTypes Tryz.prog).any (Tryz.prog.ifacesRec ·))=true:=by kernel_rfl
theorem ADo:(Rows.reachPlayedRow.mapsOut==Tryz.prog.mapsAmong Tryz.f4.resultTypes.toList)=true:=by kernel_rfl
theorem ADp:(Rows.reachPlayedRow.loops==(Tryz.f4.params.toList++Rows.reachPlayedSpec.plain.varTypes Tryz.prog).any (Tryz.prog.loopsFrom ·))=true:=by kernel_rfl
theorem ADq:(Rows.reachPlayedRow.wideKeys==(Tryz.f4.params.toList++Rows.reachPlayedSpec.plain.varTypes Tryz.prog++Tryz.f4.resultTypes.toList).any (Tryz.prog.wideKeysFrom ·))=true:=by kernel_rfl
theorem ADr:Rows.reachPlayedSpec.vars.all (Tryz.prog.varReadable ·)=true:=by kernel_rfl
theorem ADs:Tryz.f4.resultTypes.all (fun t=>Tryz.prog.readableRec t && decide (t<Tryz.prog.types.size))=true:=by kernel_rfl
theorem ADt:(Rows.reachPlayedRow.ifacesOut==Tryz.f4.resultTypes.toList.any (Tryz.prog.ifacesRec ·))=true:=by kernel_rfl
theorem ADu:(Rows.reachPlayedRow.loopsOut==Tryz.f4.resultTypes.toList.any (Tryz.prog.loopsFrom ·))=true:=by kernel_rfl
theorem ADv:(Rows.reachPlayedRow.plainKeys==Tryz.prog.plainKeys)=true:=by kernel_rfl
theorem ADw:Rows.reachPlayedRow.shortTexts.isNone=true:=by kernel_rfl
theorem ADx:(Rows.reachPlayedRow.lifted==Tryz.prog.liftsFinal)=true:=by kernel_rfl
theorem ADy:(Tryz.prog.make==some Rows.reachPlayedRow.make)=true:=by kernel_rfl
theorem ADz:(Rows.reachPlayedRow.pinned==Rows.reachPlayedRow.pinnedBy)=true:=by kernel_rfl
theorem AD0:(Rows.reachPlayedRow.veiled==(Tryz.f4.params.toList++Rows.reachPlayedSpec.plain.varTypes Tryz.prog++Tryz.f4.resultTypes.toList).any (Tryz.prog.veiledRec ·))=true:=by kernel_rfl
theorem AD1:Rows.reachPlayedRow.veiledFits Tryz.prog Tryz.f4.params.toList (Tryz.f4.params.toList++Rows.reachPlayedSpec.plain.varTypes Tryz.prog++Tryz.f4.resultTypes.toList)=true:=by kernel_rfl
theorem Yu:joinedFacts Tryz.prog 4 Tryz.f4 Rows.reachPlayedSpec Rows.reachPlayedRow=true:=by
 unfold joinedFacts;simp only [Bool.and_eq_true];exact ⟨⟨⟨⟨⟨⟨⟨⟨⟨⟨⟨⟨⟨⟨⟨⟨⟨⟨⟨⟨⟨⟨⟨⟨⟨⟨⟨⟨⟨⟨⟨jA0,laidOut⟩,pj2⟩,jA3⟩,jA4⟩,jA5⟩,pj6⟩,jA7⟩,pj8⟩,jA9⟩,ADj⟩,ADk⟩,ADl⟩,ADm⟩,ADn⟩,ADo⟩,ADp⟩,ADq⟩,ADr⟩,ADs⟩,ADt⟩,ADu⟩,ADv⟩,ADw⟩,ADh⟩,ADi⟩,ADx⟩,ADy⟩,(by kernel_rfl)⟩,ADz⟩,AD0⟩,AD1⟩
theorem ADK:Tryz.f4.isInstance Tryz.prog Rows.reachPlayedRow.origin Rows.reachPlayedRow.targs:=of_decide_eq_true (by kernel_rfl)
theorem ADL:Tryz.f4.isWrapper Tryz.prog Rows.reachPlayedRow.wrapper Rows.reachPlayedRow.mainSum:=by
 unfold Func.isWrapper; rw [if_neg (of_decide_eq_false (by kernel_rfl))]; exact ⟨rfl,rfl⟩
theorem namedA:Tryz.prog.funcNamed Rows.reachPlayedRow.func=some 4:=by kernel_rfl
theorem Yv:Rows.reachPlayedRow.wfByText (OpenSpec.ofChange Rows.reachPlayedSpec)=true:=by kernel_rfl
end Go.Proofs.YthlnefddiceoiaaGreatDoor
