/-
  DERIVED. GIVEN WITH THE SEED: THE CARDS: each row of YtfkknpebhlaaeaaGreatDoorRows.lean that lists a variable, with what it lists TIED to the program's text (the seventh form; the later family's looks); each row that meets fmt, with fmt's text TOLD by the authors' own Lean function (tested against real Go, not proved from fmt's source: count such statements apart). THE CARD IS WHAT COUNTS. Prove the row's statement (the work); the ties are given (YtfkknpebhlaaeaaGreatDoorTie.lean); close each card by the builder's one call (the guide's Derived/Test/ToyasCard.lean, 'card_holds'). Laid BY PROGRAM, IN A SANDBOX (cutbox-door.mjs). By AI agents, Wed Nov 11 2026. No macro, syntax, notation, axiom, sorry.
-/
import Derived.Test.YtfkknpebhlaaeaaGreatDoorRows
import GoSem.ClaimSeven
namespace Go.Proofs.YtfkknpebhlaaeaaGreatDoor
namespace Rows

/-- THE TIED CARD OF 'assizelaw28.ReachAll'. -/
def reachAllCard : Claim7 := { stood := { row := reachAllRow, standIns := [], harness := (true, "565b80231357d53c233290a8952e0ff5b78ac4c43fb942a2d9f97e1e47cc344a"), looks := true }, kinds := [], alts := [], laidByText := true, laidKinds := [.data, .data, .data, .widerDeep], laidTests := true, laidLooks := .later }
def ReachAllCardSaid : Prop := Claim7.holds Tryz.pinned (.plain (OpenSpec.ofChange reachAllSpec)) reachAllCard

/-- THE TIED CARD OF 'assizelaw28.ReachWitness'. -/
def reachWitnessCard : Claim7 := { stood := { row := reachWitnessRow, standIns := [], harness := (true, "565b80231357d53c233290a8952e0ff5b78ac4c43fb942a2d9f97e1e47cc344a"), looks := true }, kinds := [], alts := [], laidByText := true, laidKinds := [.data, .data, .data, .widerDeep], laidTests := true, laidLooks := .later }
def ReachWitnessCardSaid : Prop := Claim7.holds Tryz.pinned (.plain (OpenSpec.ofChange reachWitnessSpec)) reachWitnessCard

/-- THE SECOND FORM's CARD OF 'assizelaw28.ReachAll'. -/
def reachAllUptoCard : Claim7 := { stood := { row := reachAllUptoRow, standIns := [], harness := (true, "565b80231357d53c233290a8952e0ff5b78ac4c43fb942a2d9f97e1e47cc344a"), looks := true }, kinds := [], alts := [], laidByText := true, laidKinds := [.data, .data, .data, .widerDeep], laidTests := true, laidLooks := .later }
def ReachAllUptoCardSaid : Prop := Claim7.holds Tryz.pinned (.plain (OpenSpec.upto reachAllSpec)) reachAllUptoCard

/-- THE SECOND FORM's CARD OF 'assizelaw28.ReachWitness'. -/
def reachWitnessUptoCard : Claim7 := { stood := { row := reachWitnessUptoRow, standIns := [], harness := (true, "565b80231357d53c233290a8952e0ff5b78ac4c43fb942a2d9f97e1e47cc344a"), looks := true }, kinds := [], alts := [], laidByText := true, laidKinds := [.data, .data, .data, .widerDeep], laidTests := true, laidLooks := .later }
def ReachWitnessUptoCardSaid : Prop := Claim7.holds Tryz.pinned (.plain (OpenSpec.upto reachWitnessSpec)) reachWitnessUptoCard
end Rows
end Go.Proofs.YtfkknpebhlaaeaaGreatDoor
