/- TableDifferent: for every two tables, valid or not, the encodings are equal exactly if the tables are, and what is refused is refused with nothing: the tied card of the given row; the conditions are the given row's own and no others. -/
import Derived.Test.YtodbllcfofohdaaGreatDoorKB
import Derived.Test.YtodbllcfofohdaaGreatDoorKD
import Derived.Test.YtodbllcfofohdaaGreatDoorKE
set_option linter.unusedSimpArgs false
set_option linter.unusedVariables false
/- The second law: its row, its card. -/
namespace Go.Proofs.YtodbllcfofohdaaGreatDoor
open Go Go.ChangeShapes Go.WideShapes Go.ChangeAt Go.WideMaps Go.WideElems Go.RowKit
set_option maxRecDepth 100000
theorem tableDifferent_holds : Rows.TableDifferentSaid :=
  OpenClaim.holds_of_wide 4 Tryz.f4 rfl rfl rfl rfl rfl rfl rfl ⟨rfl, rfl, rfl, rfl, rfl⟩ rfl rfl rfl rfl rfl namedB Tryz.func4 closedB
    instB wrapB (fun os started H enc _ => lifted4 os started H enc)
theorem tableDifferent_card : Rows.TableDifferentCardSaid :=
  Claim7.holds_tied_plain_at .later [] [.data, .data, .data, .widerDeep, .widerDeep] true (true, "8cb5988929245bebe50bd9f89b6912c212c56d026877b61f1d1acd2f2291d2f5") true
    tableDifferent_holds (fun _ h => by cases h) wfText4 (fun _ h => by cases h) tableDifferent_row_tie rfl ⟨rfl, rfl⟩ mainIs rfl
    (fun f fn hf hfn => by
      obtain rfl : f = 4 := Option.some.inj (namedB.symm.trans hf) |>.symm
      obtain rfl : fn = Tryz.f4 := (Option.some.inj (Tryz.func4.symm.trans hfn)).symm
      exact ⟨looksTrue, fun j t ht => by
        rw [Tryz.params4] at ht
        have h3 : t = 24 := by
          rcases j with _ | _ | j
          · simpa using ht.symm
          · simpa using ht.symm
          · simp at ht
        subst h3
        exact noStand24⟩)
    goes4
end Go.Proofs.YtodbllcfofohdaaGreatDoor
