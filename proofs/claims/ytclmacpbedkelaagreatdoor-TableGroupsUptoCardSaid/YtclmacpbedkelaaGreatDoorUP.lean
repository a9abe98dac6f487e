/- TableGroups is proved for every input of bulk at most 1048576: the call returns true and the arguments read as before -/
import Derived.Test.YtclmacpbedkelaaGreatDoorUL
import Derived.Test.YtclmacpbedkelaaGreatDoorUM
import Derived.Test.YtclmacpbedkelaaGreatDoorUO
set_option linter.unusedSimpArgs false
set_option linter.unusedVariables false
set_option linter.unusedSectionVars false
namespace Go.Proofs.YtclmacpbedkelaaGreatDoor
open Go Go.ChangeShapes Go.WideShapes Go.ChangeAt Go.WideMaps Go.WideElems Go.RowKit
set_option maxRecDepth 100000
theorem AE8:Rows.TableGroupsUptoSaid:=
 OpenClaim.holds_of_cond 6 Tryz.f6 rfl rfl rfl rfl rfl rfl rfl ⟨rfl,rfl,rfl,rfl,rfl⟩ rfl rfl rfl rfl rfl namedA Tryz.func6 Xz
  ACf ACg (fun os started H enc _ F=>by rw [OpenClaim.pre_eq_preRow]; exact AGI os started H enc F)
theorem tableGroupsUpto_card:Rows.TableGroupsUptoCardSaid:=
 Claim7.holds_tied_plain_at .later [] [.data,.data,.data,.widerDeep,.widerDeep] true (true, "2146f91b4b15616b9c98d9ca1f1a03818f641d63267ce7c40dfc0f0bb2a35073") true
  AE8 (fun _ h=>by cases h) AF9 (fun _ h=>by cases h) tableGroupsUpto_row_tie rfl ⟨rfl,rfl⟩ mainIs rfl
  (fun f fn hf hfn=>by
   obtain rfl:f=6:=Option.some.inj (namedA.symm.trans hf) |>.symm
   obtain rfl:fn=Tryz.f6:=(Option.some.inj (Tryz.func6.symm.trans hfn)).symm
   exact ⟨Tu,fun j t ht=>by
    rw [Tryz.params6] at ht
    have h3:t=22∨t=23∨t=23∨t=27∨t=4∨t=23:=by simpa using Array.mem_of_getElem? ht
    rcases h3 with rfl | rfl | rfl | rfl | rfl | rfl
    ·exact Tv
    ·exact L5
    ·exact L5
    ·exact Tw
    ·exact VJ
    ·exact L5⟩)
  AGT
end Go.Proofs.YtclmacpbedkelaaGreatDoor
