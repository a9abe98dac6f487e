/-
  DERIVED. GIVEN WITH THE SEED: THE CARDS: each row of YthlnefddiceoiaaGreatDoorRows.lean that lists a variable, with what it lists TIED to the program's text (the seventh form; the later family's looks); each row that meets fmt, with fmt's text TOLD by the authors' own Lean function (tested against real Go, not proved from fmt's source: count such statements apart). THE CARD IS WHAT COUNTS. Prove the row's statement (the work); the ties are given (YthlnefddiceoiaaGreatDoorTie.lean); close each card by the builder's one call (the guide's Derived/Test/ToyasCard.lean, 'card_holds'). Laid BY PROGRAM, IN A SANDBOX (cutbox-door.mjs). By AI agents, Wed Nov 11 2026. No macro, syntax, notation, axiom, sorry.
-/
import Derived.Test.YthlnefddiceoiaaGreatDoorRows
import GoSem.ClaimSeven
namespace Go.Proofs.YthlnefddiceoiaaGreatDoor
namespace Rows

/-- THE TIED CARD OF 'assizelaw28.ReachTurned'. -/
def reachTurnedCard : Claim7 := { stood := { row := reachTurnedRow, standIns := [], harness := (true, "831e9b27b0bedea84bfb9d9f8d14bfcaff8fd85b90a35e2f8748181859377dfb"), looks := true }, kinds := [], alts := [], laidByText := true, laidKinds := [.data, .data, .data, .widerDeep], laidTests := true, laidLooks := .later }
def ReachTurnedCardSaid : Prop := Claim7.holds Tryz.pinned (.plain (OpenSpec.ofChange reachTurnedSpec)) reachTurnedCard

/-- THE TIED CARD OF 'assizelaw28.ReachPlayed'. -/
def reachPlayedCard : Claim7 := { stood := { row := reachPlayedRow, standIns := [], harness := (true, "831e9b27b0bedea84bfb9d9f8d14bfcaff8fd85b90a35e2f8748181859377dfb"), looks := true }, kinds := [], alts := [], laidByText := true, laidKinds := [.data, .data, .data, .widerDeep], laidTests := true, laidLooks := .later }
def ReachPlayedCardSaid : Prop := Claim7.holds Tryz.pinned (.plain (OpenSpec.ofChange reachPlayedSpec)) reachPlayedCard

/-- THE SECOND FORM's CARD OF 'assizelaw28.ReachTurned'. -/
def reachTurnedUptoCard : Claim7 := { stood := { row := reachTurnedUptoRow, standIns := [], harness := (true, "831e9b27b0bedea84bfb9d9f8d14bfcaff8fd85b90a35e2f8748181859377dfb"), looks := true }, kinds := [], alts := [], laidByText := true, laidKinds := [.data, .data, .data, .widerDeep], laidTests := true, laidLooks := .later }
def ReachTurnedUptoCardSaid : Prop := Claim7.holds Tryz.pinned (.plain (OpenSpec.upto reachTurnedSpec)) reachTurnedUptoCard

/-- THE SECOND FORM's CARD OF 'assizelaw28.ReachPlayed'. -/
def reachPlayedUptoCard : Claim7 := { stood := { row := reachPlayedUptoRow, standIns := [], harness := (true, "831e9b27b0bedea84bfb9d9f8d14bfcaff8fd85b90a35e2f8748181859377dfb"), looks := true }, kinds := [], alts := [], laidByText := true, laidKinds := [.data, .data, .data, .widerDeep], laidTests := true, laidLooks := .later }
def ReachPlayedUptoCardSaid : Prop := Claim7.holds Tryz.pinned (.plain (OpenSpec.upto reachPlayedSpec)) reachPlayedUptoCard
end Rows
end Go.Proofs.YthlnefddiceoiaaGreatDoor
