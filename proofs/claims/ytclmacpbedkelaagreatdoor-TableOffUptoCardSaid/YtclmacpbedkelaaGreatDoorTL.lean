/- A part of the proof. -/
import Derived.Test.YtclmacpbedkelaaGreatDoorTK
set_option linter.unusedSimpArgs false
set_option linter.unusedVariables false
set_option linter.unusedSectionVars false
namespace Go.Proofs.YtclmacpbedkelaaGreatDoor
open Go Go.ChangeShapes Go.WideShapes Go.ChangeAt Go.WideMaps Go.WideElems Go.RowKit
set_option maxRecDepth 100000
theorem jA0:Rows.tableOffUptoRow.wf (Rows.OpenSpec.upto Rows.tableOffSpec)=true:=by kernel_rfl
theorem jA3:Tryz.f5.params.all (Tryz.prog.readableRec ·)=true:=by kernel_rfl
theorem jA4:namedTie Tryz.prog Rows.tableOffUptoRow.named Rows.tableOffSpec.vars=true:=by kernel_rfl
theorem jA5:(Rows.tableOffUptoRow.stops==[])=true:=by kernel_rfl
theorem jA7:(Rows.tableOffUptoRow.knobs==[])=true:=by kernel_rfl
theorem jA9:(Rows.tableOffUptoRow.inPlace==Tryz.prog.inPlace 5)=true:=by kernel_rfl
theorem ADX:(Rows.tableOffUptoRow.unfollowed==Tryz.prog.unfollowed 5)=true:=by kernel_rfl
theorem ADY:(Rows.tableOffUptoRow.recurses==Tryz.prog.recurses 5)=true:=by kernel_rfl
theorem ADZ:(Rows.tableOffUptoRow.named==Tryz.prog.varsNamed 5)=true:=by kernel_rfl
theorem ADa:(Rows.tableOffUptoRow.maps==(Tryz.f5.params.toList++Rows.tableOffSpec.plain.varTypes Tryz.prog).any (Tryz.prog.mapsRec ·))=true:=by kernel_rfl
theorem ADb:(Rows.tableOffUptoRow.ifaces==(Tryz.f5.params.toList++Rows.tableOffSpec.plain.varTypes Tryz.prog).any (Tryz.prog.ifacesRec ·))=true:=by kernel_rfl
theorem ADc:(Rows.tableOffUptoRow.mapsOut==Tryz.prog.mapsAmong Tryz.f5.resultTypes.toList)=true:=by kernel_rfl
theorem ADd:(Rows.tableOffUptoRow.loops==(Tryz.f5.params.toList++Rows.tableOffSpec.plain.varTypes Tryz.prog).any (Tryz.prog.loopsFrom ·))=true:=by kernel_rfl
theorem ADe:(Rows.tableOffUptoRow.wideKeys==(Tryz.f5.params.toList++Rows.tableOffSpec.plain.varTypes Tryz.prog++Tryz.f5.resultTypes.toList).any (Tryz.prog.wideKeysFrom ·))=true:=by kernel_rfl
theorem ADf:Rows.tableOffSpec.vars.all (Tryz.prog.varReadable ·)=true:=by kernel_rfl
theorem ADg:Tryz.f5.resultTypes.all (fun t=>Tryz.prog.readableRec t && decide (t<Tryz.prog.types.size))=true:=by kernel_rfl
theorem ADh:(Rows.tableOffUptoRow.ifacesOut==Tryz.f5.resultTypes.toList.any (Tryz.prog.ifacesRec ·))=true:=by kernel_rfl
theorem ADi:(Rows.tableOffUptoRow.loopsOut==Tryz.f5.resultTypes.toList.any (Tryz.prog.loopsFrom ·))=true:=by kernel_rfl
theorem ADj:(Rows.tableOffUptoRow.plainKeys==Tryz.prog.plainKeys)=true:=by kernel_rfl
theorem ADk:Rows.tableOffUptoRow.shortTexts.isNone=true:=by kernel_rfl
theorem ADl:(Rows.tableOffUptoRow.lifted==Tryz.prog.liftsFinal)=true:=by kernel_rfl
theorem ADm:(Tryz.prog.make==some Rows.tableOffUptoRow.make)=true:=by kernel_rfl
theorem ADn:(Rows.tableOffUptoRow.pinned==Rows.tableOffUptoRow.pinnedBy)=true:=by kernel_rfl
theorem ADo:(Rows.tableOffUptoRow.veiled==(Tryz.f5.params.toList++Rows.tableOffSpec.plain.varTypes Tryz.prog++Tryz.f5.resultTypes.toList).any (Tryz.prog.veiledRec ·))=true:=by kernel_rfl
theorem ADp:Rows.tableOffUptoRow.veiledFits Tryz.prog Tryz.f5.params.toList (Tryz.f5.params.toList++Rows.tableOffSpec.plain.varTypes Tryz.prog++Tryz.f5.resultTypes.toList)=true:=by kernel_rfl
theorem Xz:joinedFacts Tryz.prog 5 Tryz.f5 Rows.tableOffSpec Rows.tableOffUptoRow=true:=by
 unfold joinedFacts
 simp only [Bool.and_eq_true]
 exact ⟨⟨⟨⟨⟨⟨⟨⟨⟨⟨⟨⟨⟨⟨⟨⟨⟨⟨⟨⟨⟨⟨⟨⟨⟨⟨⟨⟨⟨⟨⟨jA0,laidOut⟩,pj2⟩,jA3⟩,jA4⟩,jA5⟩,pj6⟩,jA7⟩,pj8⟩,jA9⟩,ADX⟩,ADY⟩,ADZ⟩,ADa⟩,ADb⟩,ADc⟩,ADd⟩,ADe⟩,ADf⟩,ADg⟩,ADh⟩,ADi⟩,ADj⟩,ADk⟩,ADV⟩,ADW⟩,ADl⟩,ADm⟩,(by kernel_rfl)⟩,ADn⟩,ADo⟩,ADp⟩
theorem ACf:Tryz.f5.isInstance Tryz.prog Rows.tableOffUptoRow.origin Rows.tableOffUptoRow.targs:=of_decide_eq_true (by kernel_rfl)
theorem ACg:Tryz.f5.isWrapper Tryz.prog Rows.tableOffUptoRow.wrapper Rows.tableOffUptoRow.mainSum:=by
 unfold Func.isWrapper; rw [if_neg (of_decide_eq_false (by kernel_rfl))]; exact ⟨rfl,rfl⟩
theorem namedA:Tryz.prog.funcNamed Rows.tableOffUptoRow.func=some 5:=by kernel_rfl
theorem AEE:Rows.tableOffUptoRow.wfByText (Rows.OpenSpec.upto Rows.tableOffSpec)=true:=by kernel_rfl
end Go.Proofs.YtclmacpbedkelaaGreatDoor
