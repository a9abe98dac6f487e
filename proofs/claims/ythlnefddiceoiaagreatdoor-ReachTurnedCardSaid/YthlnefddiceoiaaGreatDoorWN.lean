/- ReachTurned holds for every input: no condition beyond the row's own. -/
import Derived.Test.YthlnefddiceoiaaGreatDoorWL
import Derived.Test.YthlnefddiceoiaaGreatDoorWJ
import Derived.Test.YthlnefddiceoiaaGreatDoorWM
set_option linter.unusedSimpArgs false
set_option linter.unusedVariables false
set_option linter.unusedSectionVars false
namespace Go.Proofs.YthlnefddiceoiaaGreatDoor
open Go Go.ChangeShapes Go.WideShapes Go.ChangeAt Go.WideMaps Go.WideElems Go.RowKit
set_option maxRecDepth 100000
theorem reachTurned_card:Rows.ReachTurnedCardSaid:=
 Claim7.holds_tied_plain_at .later [] [.data,.data,.data,.widerDeep] true (true, "831e9b27b0bedea84bfb9d9f8d14bfcaff8fd85b90a35e2f8748181859377dfb") true
  AGo (fun _ h=>by cases h) Yv (fun _ h=>by cases h) reachTurned_row_tie rfl ⟨rfl,rfl⟩ mainIs rfl
  (fun f fn hf hfn=>by
   obtain rfl:f=3:=Option.some.inj (namedA.symm.trans hf) |>.symm
   obtain rfl:fn=Tryz.f3:=(Option.some.inj (Tryz.func3.symm.trans hfn)).symm;exact ⟨Vt,fun j t ht=>by
    rw [Tryz.params3] at ht;have h3:t=25∨t=3∨t=3:=by simpa using Array.mem_of_getElem? ht
    rcases h3 with rfl | rfl | rfl
    ·exact Vu
    ·exact AGD
    ·exact AGD⟩)
  ADM
end Go.Proofs.YthlnefddiceoiaaGreatDoor
