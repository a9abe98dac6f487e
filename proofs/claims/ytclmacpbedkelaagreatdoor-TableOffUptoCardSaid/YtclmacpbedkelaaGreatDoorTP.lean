/- TableOff is proved for every input of bulk at most 1048576: the call returns true and the arguments read as before -/
import Derived.Test.YtclmacpbedkelaaGreatDoorTL
import Derived.Test.YtclmacpbedkelaaGreatDoorTM
import Derived.Test.YtclmacpbedkelaaGreatDoorTO
set_option linter.unusedSimpArgs false
set_option linter.unusedVariables false
set_option linter.unusedSectionVars false
namespace Go.Proofs.YtclmacpbedkelaaGreatDoor
open Go Go.ChangeShapes Go.WideShapes Go.ChangeAt Go.WideMaps Go.WideElems Go.RowKit
set_option maxRecDepth 100000
theorem ADv:Rows.TableOffUptoSaid:=
 OpenClaim.holds_of_cond 5 Tryz.f5 rfl rfl rfl rfl rfl rfl rfl ⟨rfl,rfl,rfl,rfl,rfl⟩ rfl rfl rfl rfl rfl namedA Tryz.func5 Xz
  ACf ACg (fun os started H enc _ F=>by rw [OpenClaim.pre_eq_preRow]; exact AEI os started H enc F)
theorem tableOffUpto_card:Rows.TableOffUptoCardSaid:=
 Claim7.holds_tied_plain_at .later [] [.data,.data,.data,.widerDeep,.widerDeep] true (true, "2146f91b4b15616b9c98d9ca1f1a03818f641d63267ce7c40dfc0f0bb2a35073") true
  ADv (fun _ h=>by cases h) AEE (fun _ h=>by cases h) tableOffUpto_row_tie rfl ⟨rfl,rfl⟩ mainIs rfl
  (fun f fn hf hfn=>by
   obtain rfl:f=5:=Option.some.inj (namedA.symm.trans hf) |>.symm
   obtain rfl:fn=Tryz.f5:=(Option.some.inj (Tryz.func5.symm.trans hfn)).symm
   exact ⟨Tu,fun j t ht=>by
    rw [Tryz.params5] at ht
    have h3:t=22∨t=23∨t=23∨t=27∨t=4∨t=23∨t=3∨t=3:=by simpa using Array.mem_of_getElem? ht
    rcases h3 with rfl | rfl | rfl | rfl | rfl | rfl | rfl | rfl
    ·exact Tv
    ·exact L5
    ·exact L5
    ·exact Tw
    ·exact VJ
    ·exact L5
    ·exact AD2
    ·exact AD2⟩)
  AEL
end Go.Proofs.YtclmacpbedkelaaGreatDoor
