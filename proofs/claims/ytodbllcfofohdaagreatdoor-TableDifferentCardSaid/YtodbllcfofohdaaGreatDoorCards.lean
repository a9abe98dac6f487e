/-
  DERIVED. GIVEN WITH THE SEED: THE CARDS: each row of YtodbllcfofohdaaGreatDoorRows.lean that lists a variable, with what it lists TIED to the program's text (the seventh form; the later family's looks); each row that meets fmt, with fmt's text TOLD by the authors' own Lean function (tested against real Go, not proved from fmt's source: count such statements apart). THE CARD IS WHAT COUNTS. Prove the row's statement (the work); the ties are given (YtodbllcfofohdaaGreatDoorTie.lean); close each card by the builder's one call (the guide's Derived/Test/ToyasCard.lean, 'card_holds'). Laid BY PROGRAM, IN A SANDBOX (cutbox-door.mjs). By AI agents, Wed Nov 11 2026. No macro, syntax, notation, axiom, sorry.
-/
import Derived.Test.YtodbllcfofohdaaGreatDoorRows
import GoSem.ClaimSeven
namespace Go.Proofs.YtodbllcfofohdaaGreatDoor
namespace Rows

/-- THE TIED CARD OF 'assizelaw20.TableEncodeSpec'. -/
def tableEncodeSpecCard : Claim7 := { stood := { row := tableEncodeSpecRow, standIns := [], harness := (true, "8cb5988929245bebe50bd9f89b6912c212c56d026877b61f1d1acd2f2291d2f5"), looks := true }, kinds := [], alts := [], laidByText := true, laidKinds := [.data, .data, .data, .widerDeep, .widerDeep], laidTests := true, laidLooks := .later }
def TableEncodeSpecCardSaid : Prop := Claim7.holds Tryz.pinned (.plain (OpenSpec.ofChange tableEncodeSpecSpec)) tableEncodeSpecCard

/-- THE TIED CARD OF 'assizelaw20.TableDifferent'. -/
def tableDifferentCard : Claim7 := { stood := { row := tableDifferentRow, standIns := [], harness := (true, "8cb5988929245bebe50bd9f89b6912c212c56d026877b61f1d1acd2f2291d2f5"), looks := true }, kinds := [], alts := [], laidByText := true, laidKinds := [.data, .data, .data, .widerDeep, .widerDeep], laidTests := true, laidLooks := .later }
def TableDifferentCardSaid : Prop := Claim7.holds Tryz.pinned (.plain (OpenSpec.ofChange tableDifferentSpec)) tableDifferentCard

/-- THE SECOND FORM's CARD OF 'assizelaw20.TableEncodeSpec'. -/
def tableEncodeSpecUptoCard : Claim7 := { stood := { row := tableEncodeSpecUptoRow, standIns := [], harness := (true, "8cb5988929245bebe50bd9f89b6912c212c56d026877b61f1d1acd2f2291d2f5"), looks := true }, kinds := [], alts := [], laidByText := true, laidKinds := [.data, .data, .data, .widerDeep, .widerDeep], laidTests := true, laidLooks := .later }
def TableEncodeSpecUptoCardSaid : Prop := Claim7.holds Tryz.pinned (.plain (OpenSpec.upto tableEncodeSpecSpec)) tableEncodeSpecUptoCard

/-- THE SECOND FORM's CARD OF 'assizelaw20.TableDifferent'. -/
def tableDifferentUptoCard : Claim7 := { stood := { row := tableDifferentUptoRow, standIns := [], harness := (true, "8cb5988929245bebe50bd9f89b6912c212c56d026877b61f1d1acd2f2291d2f5"), looks := true }, kinds := [], alts := [], laidByText := true, laidKinds := [.data, .data, .data, .widerDeep, .widerDeep], laidTests := true, laidLooks := .later }
def TableDifferentUptoCardSaid : Prop := Claim7.holds Tryz.pinned (.plain (OpenSpec.upto tableDifferentSpec)) tableDifferentUptoCard
end Rows
end Go.Proofs.YtodbllcfofohdaaGreatDoor
