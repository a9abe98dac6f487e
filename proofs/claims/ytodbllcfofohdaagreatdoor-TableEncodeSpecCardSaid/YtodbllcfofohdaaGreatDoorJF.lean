/- TableEncodeSpec: for every table, valid or not, Check and Encode of package table answer what the specification answers: the tied card of the given row; the conditions are the given row's own and no others. -/
import Derived.Test.YtodbllcfofohdaaGreatDoorJD
import Derived.Test.YtodbllcfofohdaaGreatDoorJB
import Derived.Test.YtodbllcfofohdaaGreatDoorJC
import Derived.Test.YtodbllcfofohdaaGreatDoorJE
set_option linter.unusedSimpArgs false
set_option linter.unusedVariables false
/- The first law: its row, its card. -/
namespace Go.Proofs.YtodbllcfofohdaaGreatDoor
open Go Go.ChangeShapes Go.WideShapes Go.ChangeAt Go.WideMaps Go.WideElems Go.RowKit
set_option maxRecDepth 100000
theorem tableEncodeSpec_holds : Rows.TableEncodeSpecSaid :=
  OpenClaim.holds_of_wide 3 Tryz.f3 rfl rfl rfl rfl rfl rfl rfl ⟨rfl, rfl, rfl, rfl, rfl⟩ rfl rfl rfl rfl rfl namedA Tryz.func3 closedA
    instA wrapA (fun os started H enc _ => lifted3 os started H enc)
end Go.Proofs.YtodbllcfofohdaaGreatDoor
/- The first law: its card. -/
namespace Go.Proofs.YtodbllcfofohdaaGreatDoor
open Go
set_option maxRecDepth 100000
theorem tableEncodeSpec_card : Rows.TableEncodeSpecCardSaid :=
  Claim7.holds_tied_plain_at .later [] [.data, .data, .data, .widerDeep, .widerDeep] true (true, "8cb5988929245bebe50bd9f89b6912c212c56d026877b61f1d1acd2f2291d2f5") true
    tableEncodeSpec_holds (fun _ h => by cases h) wfText3 (fun _ h => by cases h) tableEncodeSpec_row_tie rfl ⟨rfl, rfl⟩ mainIs rfl
    (fun f fn hf hfn => by
      obtain rfl : f = 3 := Option.some.inj (namedA.symm.trans hf) |>.symm
      obtain rfl : fn = Tryz.f3 := (Option.some.inj (Tryz.func3.symm.trans hfn)).symm
      exact ⟨looksTrue, fun j t ht => by
        rw [Tryz.params3] at ht
        have h3 : t = 24 := by
          rcases j with _ | j
          · simpa using ht.symm
          · simp at ht
        subst h3
        exact noStand24⟩)
    goes3
end Go.Proofs.YtodbllcfofohdaaGreatDoor
