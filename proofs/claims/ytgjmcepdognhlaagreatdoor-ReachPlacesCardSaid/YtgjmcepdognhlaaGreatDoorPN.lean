/- ReachPlaces holds for every input: no condition beyond the row's own. -/
import Derived.Test.YtgjmcepdognhlaaGreatDoorPL
import Derived.Test.YtgjmcepdognhlaaGreatDoorPJ
import Derived.Test.YtgjmcepdognhlaaGreatDoorPM
set_option linter.unusedSimpArgs false
set_option linter.unusedVariables false
set_option linter.unusedSectionVars false
namespace Go.Proofs.YtgjmcepdognhlaaGreatDoor
open Go Go.ChangeShapes Go.WideShapes Go.ChangeAt Go.WideMaps Go.WideElems Go.RowKit
set_option maxRecDepth 100000
theorem reachPlaces_card:Rows.ReachPlacesCardSaid:=
 Claim7.holds_tied_plain_at .later [] [.data,.data,.data,.widerDeep] true (true, "cb9d6c6418dd2d5eb646f5125680023f46043f8c10da7ae2650b4f74e5d7b72d") true
  Lb (fun _ h=>by cases h) Yv (fun _ h=>by cases h) reachPlaces_row_tie rfl ⟨rfl,rfl⟩ mainIs rfl
  (fun f fn hf hfn=>by
   obtain rfl:f=3:=Option.some.inj (namedA.symm.trans hf) |>.symm
   obtain rfl:fn=Tryz.f3:=(Option.some.inj (Tryz.func3.symm.trans hfn)).symm;exact ⟨Vt,fun j t ht=>by
    rw [Tryz.params3] at ht;have h3:t=25:=by
     rcases j with _ | j
     ·simpa using ht.symm
     ·simp at ht
    subst h3;exact Vu⟩)
  ADM
end Go.Proofs.YtgjmcepdognhlaaGreatDoor
