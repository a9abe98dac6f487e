/- A part of the proof. -/
import Derived.Test.YtclmacpbedkelaaGreatDoorUK
set_option linter.unusedSimpArgs false
set_option linter.unusedVariables false
set_option linter.unusedSectionVars false
namespace Go.Proofs.YtclmacpbedkelaaGreatDoor
open Go Go.ChangeShapes Go.WideShapes Go.ChangeAt Go.WideMaps Go.WideElems Go.RowKit
set_option maxRecDepth 100000
theorem jA0:Rows.tableGroupsUptoRow.wf (Rows.OpenSpec.upto Rows.tableGroupsSpec)=true:=by kernel_rfl
theorem jA3:Tryz.f6.params.all (Tryz.prog.readableRec ·)=true:=by kernel_rfl
theorem jA4:namedTie Tryz.prog Rows.tableGroupsUptoRow.named Rows.tableGroupsSpec.vars=true:=by kernel_rfl
theorem jA5:(Rows.tableGroupsUptoRow.stops==[])=true:=by kernel_rfl
theorem jA7:(Rows.tableGroupsUptoRow.knobs==[])=true:=by kernel_rfl
theorem jA9:(Rows.tableGroupsUptoRow.inPlace==Tryz.prog.inPlace 6)=true:=by kernel_rfl
theorem ADX:(Rows.tableGroupsUptoRow.unfollowed==Tryz.prog.unfollowed 6)=true:=by kernel_rfl
theorem ADY:(Rows.tableGroupsUptoRow.recurses==Tryz.prog.recurses 6)=true:=by kernel_rfl
theorem ADZ:(Rows.tableGroupsUptoRow.named==Tryz.prog.varsNamed 6)=true:=by kernel_rfl
theorem ADa:(Rows.tableGroupsUptoRow.maps==(Tryz.f6.params.toList++Rows.tableGroupsSpec.plain.varTypes Tryz.prog).any (Tryz.prog.mapsRec ·))=true:=by kernel_rfl
theorem ADb:(Rows.tableGroupsUptoRow.ifaces==(Tryz.f6.params.toList++Rows.tableGroupsSpec.plain.varTypes Tryz.prog).any (Tryz.prog.ifacesRec ·))=true:=by kernel_rfl
theorem ADc:(Rows.tableGroupsUptoRow.mapsOut==Tryz.prog.mapsAmong Tryz.f6.resultTypes.toList)=true:=by kernel_rfl
theorem ADd:(Rows.tableGroupsUptoRow.loops==(Tryz.f6.params.toList++Rows.tableGroupsSpec.plain.varTypes Tryz.prog).any (Tryz.prog.loopsFrom ·))=true:=by kernel_rfl
theorem ADe:(Rows.tableGroupsUptoRow.wideKeys==(Tryz.f6.params.toList++Rows.tableGroupsSpec.plain.varTypes Tryz.prog++Tryz.f6.resultTypes.toList).any (Tryz.prog.wideKeysFrom ·))=true:=by kernel_rfl
theorem ADf:Rows.tableGroupsSpec.vars.all (Tryz.prog.varReadable ·)=true:=by kernel_rfl
theorem ADg:Tryz.f6.resultTypes.all (fun t=>Tryz.prog.readableRec t && decide (t<Tryz.prog.types.size))=true:=by kernel_rfl
theorem ADh:(Rows.tableGroupsUptoRow.ifacesOut==Tryz.f6.resultTypes.toList.any (Tryz.prog.ifacesRec ·))=true:=by kernel_rfl
theorem ADi:(Rows.tableGroupsUptoRow.loopsOut==Tryz.f6.resultTypes.toList.any (Tryz.prog.loopsFrom ·))=true:=by kernel_rfl
theorem ADj:(Rows.tableGroupsUptoRow.plainKeys==Tryz.prog.plainKeys)=true:=by kernel_rfl
theorem ADk:Rows.tableGroupsUptoRow.shortTexts.isNone=true:=by kernel_rfl
theorem ADl:(Rows.tableGroupsUptoRow.lifted==Tryz.prog.liftsFinal)=true:=by kernel_rfl
theorem ADm:(Tryz.prog.make==some Rows.tableGroupsUptoRow.make)=true:=by kernel_rfl
theorem ADn:(Rows.tableGroupsUptoRow.pinned==Rows.tableGroupsUptoRow.pinnedBy)=true:=by kernel_rfl
theorem ADo:(Rows.tableGroupsUptoRow.veiled==(Tryz.f6.params.toList++Rows.tableGroupsSpec.plain.varTypes Tryz.prog++Tryz.f6.resultTypes.toList).any (Tryz.prog.veiledRec ·))=true:=by kernel_rfl
theorem ADp:Rows.tableGroupsUptoRow.veiledFits Tryz.prog Tryz.f6.params.toList (Tryz.f6.params.toList++Rows.tableGroupsSpec.plain.varTypes Tryz.prog++Tryz.f6.resultTypes.toList)=true:=by kernel_rfl
theorem Xz:joinedFacts Tryz.prog 6 Tryz.f6 Rows.tableGroupsSpec Rows.tableGroupsUptoRow=true:=by
 unfold joinedFacts
 simp only [Bool.and_eq_true]
 exact ⟨⟨⟨⟨⟨⟨⟨⟨⟨⟨⟨⟨⟨⟨⟨⟨⟨⟨⟨⟨⟨⟨⟨⟨⟨⟨⟨⟨⟨⟨⟨jA0,laidOut⟩,pj2⟩,jA3⟩,jA4⟩,jA5⟩,pj6⟩,jA7⟩,pj8⟩,jA9⟩,ADX⟩,ADY⟩,ADZ⟩,ADa⟩,ADb⟩,ADc⟩,ADd⟩,ADe⟩,ADf⟩,ADg⟩,ADh⟩,ADi⟩,ADj⟩,ADk⟩,ADV⟩,ADW⟩,ADl⟩,ADm⟩,(by kernel_rfl)⟩,ADn⟩,ADo⟩,ADp⟩
theorem ACf:Tryz.f6.isInstance Tryz.prog Rows.tableGroupsUptoRow.origin Rows.tableGroupsUptoRow.targs:=of_decide_eq_true (by kernel_rfl)
theorem ACg:Tryz.f6.isWrapper Tryz.prog Rows.tableGroupsUptoRow.wrapper Rows.tableGroupsUptoRow.mainSum:=by
 unfold Func.isWrapper; rw [if_neg (of_decide_eq_false (by kernel_rfl))]; exact ⟨rfl,rfl⟩
theorem namedA:Tryz.prog.funcNamed Rows.tableGroupsUptoRow.func=some 6:=by kernel_rfl
theorem AF9:Rows.tableGroupsUptoRow.wfByText (Rows.OpenSpec.upto Rows.tableGroupsSpec)=true:=by kernel_rfl
end Go.Proofs.YtclmacpbedkelaaGreatDoor
