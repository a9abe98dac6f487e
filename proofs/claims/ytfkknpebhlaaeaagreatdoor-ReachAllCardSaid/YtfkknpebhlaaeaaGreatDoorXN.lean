/- ReachAll holds for every input: no condition beyond the row's own. -/
import Derived.Test.YtfkknpebhlaaeaaGreatDoorXL
import Derived.Test.YtfkknpebhlaaeaaGreatDoorXJ
import Derived.Test.YtfkknpebhlaaeaaGreatDoorXM
set_option linter.unusedSimpArgs false
set_option linter.unusedVariables false
set_option linter.unusedSectionVars false
namespace Go.Proofs.YtfkknpebhlaaeaaGreatDoor
open Go Go.ChangeShapes Go.WideShapes Go.ChangeAt Go.WideMaps Go.WideElems Go.RowKit
set_option maxRecDepth 100000
theorem reachAll_card:Rows.ReachAllCardSaid:=
 Claim7.holds_tied_plain_at .later [] [.data,.data,.data,.widerDeep] true (true, "565b80231357d53c233290a8952e0ff5b78ac4c43fb942a2d9f97e1e47cc344a") true
  AJD (fun _ h=>by cases h) Yv (fun _ h=>by cases h) reachAll_row_tie rfl ⟨rfl,rfl⟩ mainIs rfl
  (fun f fn hf hfn=>by
   obtain rfl:f=3:=Option.some.inj (namedA.symm.trans hf) |>.symm
   obtain rfl:fn=Tryz.f3:=(Option.some.inj (Tryz.func3.symm.trans hfn)).symm;exact ⟨Vt,fun j t ht=>by
    rw [Tryz.params3] at ht;have h3:t=25:=by
     rcases j with _ | j
     ·simpa using ht.symm
     ·simp at ht
    subst h3;exact Vu⟩)
  ADM
end Go.Proofs.YtfkknpebhlaaeaaGreatDoor
