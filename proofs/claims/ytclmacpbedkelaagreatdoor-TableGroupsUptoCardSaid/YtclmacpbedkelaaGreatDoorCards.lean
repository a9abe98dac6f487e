/-
  DERIVED. GIVEN WITH THE SEED: THE CARDS: each row of YtclmacpbedkelaaGreatDoorRows.lean that lists a variable, with what it lists TIED to the program's text (the seventh form; the later family's looks); each row that meets fmt, with fmt's text TOLD by the authors' own Lean function (tested against real Go, not proved from fmt's source: count such statements apart). THE CARD IS WHAT COUNTS. Prove the row's statement (the work); the ties are given (YtclmacpbedkelaaGreatDoorTie.lean); close each card by the builder's one call (the guide's Derived/Test/ToyasCard.lean, 'card_holds'). Laid BY PROGRAM, IN A SANDBOX (cutbox-door.mjs). By AI agents, Wed Nov 11 2026. No macro, syntax, notation, axiom, sorry.
-/
import Derived.Test.YtclmacpbedkelaaGreatDoorRows
import GoSem.ClaimSeven
namespace Go.Proofs.YtclmacpbedkelaaGreatDoor
namespace Rows

/-- THE TIED CARD OF 'assizelaw20.TableSums'. -/
def tableSumsCard : Claim7 := { stood := { row := tableSumsRow, standIns := [], harness := (true, "2146f91b4b15616b9c98d9ca1f1a03818f641d63267ce7c40dfc0f0bb2a35073"), looks := true }, kinds := [], alts := [], laidByText := true, laidKinds := [.data, .data, .data, .widerDeep, .widerDeep], laidTests := true, laidLooks := .later }
def TableSumsCardSaid : Prop := Claim7.holds Tryz.pinned (.plain (OpenSpec.ofChange tableSumsSpec)) tableSumsCard

/-- THE TIED CARD OF 'assizelaw20.TableFacts'. -/
def tableFactsCard : Claim7 := { stood := { row := tableFactsRow, standIns := [], harness := (true, "2146f91b4b15616b9c98d9ca1f1a03818f641d63267ce7c40dfc0f0bb2a35073"), looks := true }, kinds := [], alts := [], laidByText := true, laidKinds := [.data, .data, .data, .widerDeep, .widerDeep], laidTests := true, laidLooks := .later }
def TableFactsCardSaid : Prop := Claim7.holds Tryz.pinned (.plain (OpenSpec.ofChange tableFactsSpec)) tableFactsCard

/-- THE TIED CARD OF 'assizelaw20.TableOff'. -/
def tableOffCard : Claim7 := { stood := { row := tableOffRow, standIns := [], harness := (true, "2146f91b4b15616b9c98d9ca1f1a03818f641d63267ce7c40dfc0f0bb2a35073"), looks := true }, kinds := [], alts := [], laidByText := true, laidKinds := [.data, .data, .data, .widerDeep, .widerDeep], laidTests := true, laidLooks := .later }
def TableOffCardSaid : Prop := Claim7.holds Tryz.pinned (.plain (OpenSpec.ofChange tableOffSpec)) tableOffCard

/-- THE TIED CARD OF 'assizelaw20.TableGroups'. -/
def tableGroupsCard : Claim7 := { stood := { row := tableGroupsRow, standIns := [], harness := (true, "2146f91b4b15616b9c98d9ca1f1a03818f641d63267ce7c40dfc0f0bb2a35073"), looks := true }, kinds := [], alts := [], laidByText := true, laidKinds := [.data, .data, .data, .widerDeep, .widerDeep], laidTests := true, laidLooks := .later }
def TableGroupsCardSaid : Prop := Claim7.holds Tryz.pinned (.plain (OpenSpec.ofChange tableGroupsSpec)) tableGroupsCard

/-- THE SECOND FORM's CARD OF 'assizelaw20.TableSums'. -/
def tableSumsUptoCard : Claim7 := { stood := { row := tableSumsUptoRow, standIns := [], harness := (true, "2146f91b4b15616b9c98d9ca1f1a03818f641d63267ce7c40dfc0f0bb2a35073"), looks := true }, kinds := [], alts := [], laidByText := true, laidKinds := [.data, .data, .data, .widerDeep, .widerDeep], laidTests := true, laidLooks := .later }
def TableSumsUptoCardSaid : Prop := Claim7.holds Tryz.pinned (.plain (OpenSpec.upto tableSumsSpec)) tableSumsUptoCard

/-- THE SECOND FORM's CARD OF 'assizelaw20.TableFacts'. -/
def tableFactsUptoCard : Claim7 := { stood := { row := tableFactsUptoRow, standIns := [], harness := (true, "2146f91b4b15616b9c98d9ca1f1a03818f641d63267ce7c40dfc0f0bb2a35073"), looks := true }, kinds := [], alts := [], laidByText := true, laidKinds := [.data, .data, .data, .widerDeep, .widerDeep], laidTests := true, laidLooks := .later }
def TableFactsUptoCardSaid : Prop := Claim7.holds Tryz.pinned (.plain (OpenSpec.upto tableFactsSpec)) tableFactsUptoCard

/-- THE SECOND FORM's CARD OF 'assizelaw20.TableOff'. -/
def tableOffUptoCard : Claim7 := { stood := { row := tableOffUptoRow, standIns := [], harness := (true, "2146f91b4b15616b9c98d9ca1f1a03818f641d63267ce7c40dfc0f0bb2a35073"), looks := true }, kinds := [], alts := [], laidByText := true, laidKinds := [.data, .data, .data, .widerDeep, .widerDeep], laidTests := true, laidLooks := .later }
def TableOffUptoCardSaid : Prop := Claim7.holds Tryz.pinned (.plain (OpenSpec.upto tableOffSpec)) tableOffUptoCard

/-- THE SECOND FORM's CARD OF 'assizelaw20.TableGroups'. -/
def tableGroupsUptoCard : Claim7 := { stood := { row := tableGroupsUptoRow, standIns := [], harness := (true, "2146f91b4b15616b9c98d9ca1f1a03818f641d63267ce7c40dfc0f0bb2a35073"), looks := true }, kinds := [], alts := [], laidByText := true, laidKinds := [.data, .data, .data, .widerDeep, .widerDeep], laidTests := true, laidLooks := .later }
def TableGroupsUptoCardSaid : Prop := Claim7.holds Tryz.pinned (.plain (OpenSpec.upto tableGroupsSpec)) tableGroupsUptoCard
end Rows
end Go.Proofs.YtclmacpbedkelaaGreatDoor
