/- A part of the proof. -/
import Derived.Test.YtclmacpbedkelaaGreatDoorSJ
set_option linter.unusedSimpArgs false
set_option linter.unusedVariables false
set_option linter.unusedSectionVars false
namespace Go.Proofs.YtclmacpbedkelaaGreatDoor
open Go Go.ChangeShapes Go.WideShapes Go.ChangeAt Go.WideMaps Go.WideElems Go.RowKit
set_option maxRecDepth 100000
theorem jA0:Rows.tableSumsUptoRow.wf (Rows.OpenSpec.upto Rows.tableSumsSpec)=true:=by kernel_rfl
theorem jA3:Tryz.f3.params.all (Tryz.prog.readableRec ·)=true:=by kernel_rfl
theorem jA4:namedTie Tryz.prog Rows.tableSumsUptoRow.named Rows.tableSumsSpec.vars=true:=by kernel_rfl
theorem jA5:(Rows.tableSumsUptoRow.stops==[])=true:=by kernel_rfl
theorem jA7:(Rows.tableSumsUptoRow.knobs==[])=true:=by kernel_rfl
theorem jA9:(Rows.tableSumsUptoRow.inPlace==Tryz.prog.inPlace 3)=true:=by kernel_rfl
theorem ADX:(Rows.tableSumsUptoRow.unfollowed==Tryz.prog.unfollowed 3)=true:=by kernel_rfl
theorem ADY:(Rows.tableSumsUptoRow.recurses==Tryz.prog.recurses 3)=true:=by kernel_rfl
theorem ADZ:(Rows.tableSumsUptoRow.named==Tryz.prog.varsNamed 3)=true:=by kernel_rfl
theorem ADa:(Rows.tableSumsUptoRow.maps==(Tryz.f3.params.toList++Rows.tableSumsSpec.plain.varTypes Tryz.prog).any (Tryz.prog.mapsRec ·))=true:=by kernel_rfl
theorem ADb:(Rows.tableSumsUptoRow.ifaces==(Tryz.f3.params.toList++Rows.tableSumsSpec.plain.varTypes Tryz.prog).any (Tryz.prog.ifacesRec ·))=true:=by kernel_rfl
theorem ADc:(Rows.tableSumsUptoRow.mapsOut==Tryz.prog.mapsAmong Tryz.f3.resultTypes.toList)=true:=by kernel_rfl
theorem ADd:(Rows.tableSumsUptoRow.loops==(Tryz.f3.params.toList++Rows.tableSumsSpec.plain.varTypes Tryz.prog).any (Tryz.prog.loopsFrom ·))=true:=by kernel_rfl
theorem ADe:(Rows.tableSumsUptoRow.wideKeys==(Tryz.f3.params.toList++Rows.tableSumsSpec.plain.varTypes Tryz.prog++Tryz.f3.resultTypes.toList).any (Tryz.prog.wideKeysFrom ·))=true:=by kernel_rfl
theorem ADf:Rows.tableSumsSpec.vars.all (Tryz.prog.varReadable ·)=true:=by kernel_rfl
theorem ADg:Tryz.f3.resultTypes.all (fun t=>Tryz.prog.readableRec t && decide (t<Tryz.prog.types.size))=true:=by kernel_rfl
theorem ADh:(Rows.tableSumsUptoRow.ifacesOut==Tryz.f3.resultTypes.toList.any (Tryz.prog.ifacesRec ·))=true:=by kernel_rfl
theorem ADi:(Rows.tableSumsUptoRow.loopsOut==Tryz.f3.resultTypes.toList.any (Tryz.prog.loopsFrom ·))=true:=by kernel_rfl
theorem ADj:(Rows.tableSumsUptoRow.plainKeys==Tryz.prog.plainKeys)=true:=by kernel_rfl
theorem ADk:Rows.tableSumsUptoRow.shortTexts.isNone=true:=by kernel_rfl
theorem ADl:(Rows.tableSumsUptoRow.lifted==Tryz.prog.liftsFinal)=true:=by kernel_rfl
theorem ADm:(Tryz.prog.make==some Rows.tableSumsUptoRow.make)=true:=by kernel_rfl
theorem ADn:(Rows.tableSumsUptoRow.pinned==Rows.tableSumsUptoRow.pinnedBy)=true:=by kernel_rfl
theorem ADo:(Rows.tableSumsUptoRow.veiled==(Tryz.f3.params.toList++Rows.tableSumsSpec.plain.varTypes Tryz.prog++Tryz.f3.resultTypes.toList).any (Tryz.prog.veiledRec ·))=true:=by kernel_rfl
theorem ADp:Rows.tableSumsUptoRow.veiledFits Tryz.prog Tryz.f3.params.toList (Tryz.f3.params.toList++Rows.tableSumsSpec.plain.varTypes Tryz.prog++Tryz.f3.resultTypes.toList)=true:=by kernel_rfl
theorem Xz:joinedFacts Tryz.prog 3 Tryz.f3 Rows.tableSumsSpec Rows.tableSumsUptoRow=true:=by
 unfold joinedFacts
 simp only [Bool.and_eq_true]
 exact ⟨⟨⟨⟨⟨⟨⟨⟨⟨⟨⟨⟨⟨⟨⟨⟨⟨⟨⟨⟨⟨⟨⟨⟨⟨⟨⟨⟨⟨⟨⟨jA0,laidOut⟩,pj2⟩,jA3⟩,jA4⟩,jA5⟩,pj6⟩,jA7⟩,pj8⟩,jA9⟩,ADX⟩,ADY⟩,ADZ⟩,ADa⟩,ADb⟩,ADc⟩,ADd⟩,ADe⟩,ADf⟩,ADg⟩,ADh⟩,ADi⟩,ADj⟩,ADk⟩,ADV⟩,ADW⟩,ADl⟩,ADm⟩,(by kernel_rfl)⟩,ADn⟩,ADo⟩,ADp⟩
theorem ACf:Tryz.f3.isInstance Tryz.prog Rows.tableSumsUptoRow.origin Rows.tableSumsUptoRow.targs:=of_decide_eq_true (by kernel_rfl)
theorem ACg:Tryz.f3.isWrapper Tryz.prog Rows.tableSumsUptoRow.wrapper Rows.tableSumsUptoRow.mainSum:=by
 unfold Func.isWrapper; rw [if_neg (of_decide_eq_false (by kernel_rfl))]; exact ⟨rfl,rfl⟩
theorem namedA:Tryz.prog.funcNamed Rows.tableSumsUptoRow.func=some 3:=by kernel_rfl
theorem X0:Rows.tableSumsUptoRow.wfByText (Rows.OpenSpec.upto Rows.tableSumsSpec)=true:=by kernel_rfl
end Go.Proofs.YtclmacpbedkelaaGreatDoor
