/-
  DERIVED. GIVEN WITH THE SEED: THE CARDS: each row of YtgjmcepdognhlaaGreatDoorRows.lean that lists a variable, with what it lists TIED to the program's text (the seventh form; the later family's looks); each row that meets fmt, with fmt's text TOLD by the authors' own Lean function (tested against real Go, not proved from fmt's source: count such statements apart). THE CARD IS WHAT COUNTS. Prove the row's statement (the work); the ties are given (YtgjmcepdognhlaaGreatDoorTie.lean); close each card by the builder's one call (the guide's Derived/Test/ToyasCard.lean, 'card_holds'). Laid BY PROGRAM, IN A SANDBOX (cutbox-door.mjs). By AI agents, Wed Nov 11 2026. No macro, syntax, notation, axiom, sorry.
-/
import Derived.Test.YtgjmcepdognhlaaGreatDoorRows
import GoSem.ClaimSeven
namespace Go.Proofs.YtgjmcepdognhlaaGreatDoor
namespace Rows

/-- THE TIED CARD OF 'assizelaw28.ReachPlaces'. -/
def reachPlacesCard : Claim7 := { stood := { row := reachPlacesRow, standIns := [], harness := (true, "cb9d6c6418dd2d5eb646f5125680023f46043f8c10da7ae2650b4f74e5d7b72d"), looks := true }, kinds := [], alts := [], laidByText := true, laidKinds := [.data, .data, .data, .widerDeep], laidTests := true, laidLooks := .later }
def ReachPlacesCardSaid : Prop := Claim7.holds Tryz.pinned (.plain (OpenSpec.ofChange reachPlacesSpec)) reachPlacesCard

/-- THE SECOND FORM's CARD OF 'assizelaw28.ReachPlaces'. -/
def reachPlacesUptoCard : Claim7 := { stood := { row := reachPlacesUptoRow, standIns := [], harness := (true, "cb9d6c6418dd2d5eb646f5125680023f46043f8c10da7ae2650b4f74e5d7b72d"), looks := true }, kinds := [], alts := [], laidByText := true, laidKinds := [.data, .data, .data, .widerDeep], laidTests := true, laidLooks := .later }
def ReachPlacesUptoCardSaid : Prop := Claim7.holds Tryz.pinned (.plain (OpenSpec.upto reachPlacesSpec)) reachPlacesUptoCard
end Rows
end Go.Proofs.YtgjmcepdognhlaaGreatDoor
