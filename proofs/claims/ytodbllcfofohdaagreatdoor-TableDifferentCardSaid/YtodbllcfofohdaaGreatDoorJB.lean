/- A part of the proof: R2J2, R2J3. -/
import Derived.Test.YtodbllcfofohdaaGreatDoorJA
set_option linter.unusedSimpArgs false
set_option linter.unusedVariables false
/- Both laws, as the cards state them: the statements. -/
namespace Go.Proofs.YtodbllcfofohdaaGreatDoor
open Go Go.ChangeShapes Go.WideShapes Go.ChangeAt Go.WideMaps Go.WideElems Go.RowKit
set_option maxRecDepth 100000
theorem progEq : Tryz.checked.prog = Tryz.prog := rfl
theorem lifted_gen (C : Checked) (hC : C.prog = Tryz.prog) (os : Os) (started : os.Started) (H : Type) (enc : TypeId × Value → H) :
    ReturnsInHanded {} C os 3 .any (fun w args => (Rows.tableEncodeSpecSpec.pre enc C.prog Tryz.f3 [] false w args ∧ laidMetH C.prog laidR w) ∧ sizedMet enc C.prog Tryz.f3 (OpenSpec.ofChange Rows.tableEncodeSpecSpec) false w args)
      (Rows.tableEncodeSpecSpec.post enc C.prog Tryz.f3 false true false false) :=
  returnsInHanded_of_change_and (C := C) (X := fun w _ => laidMetH C.prog laidR w) (fun _ _ _ hh h => h.of_heap hh) (hC.symm ▸ own) started (hC.symm ▸ noInit3) (hC.symm ▸ Tryz.func3)
    (ChangeSpec.witness_shaped (enc := enc) (C := C) (os := os) (X := fun w _ => laidMetH C.prog laidR w) false (World.doorLaid Tryz.prog 38 os) wArgs3 8 rfl (by rw [hC]; exact wit_shaped os _) (by rw [hC]; exact wit_ok3 os) (by rw [hC]; exact wit_pre3 os H enc) (by rw [hC]; exact wit_sized3 os H enc) (by rw [hC]; exact door_met os _))
    (fun W base args ds gs before hval hW _ _ hL _ => by
      rw [hC] at hval hW hL ⊢
      exact contract3 H enc W base args ds gs before hval hW hL)
end Go.Proofs.YtodbllcfofohdaaGreatDoor
/- Both laws, as the cards state them: the statements. -/
namespace Go.Proofs.YtodbllcfofohdaaGreatDoor
open Go Go.ChangeShapes Go.WideShapes Go.ChangeAt Go.WideMaps Go.WideElems Go.RowKit
set_option maxRecDepth 100000
theorem lifted3 (os : Os) (started : os.Started) (H : Type) (enc : TypeId × Value → H) :
    ReturnsInHanded {} Tryz.checked os 3 .any (fun w args => (Rows.tableEncodeSpecSpec.pre enc Tryz.prog Tryz.f3 [] false w args ∧ laidMetH Tryz.prog laidR w) ∧ sizedMet enc Tryz.prog Tryz.f3 (OpenSpec.ofChange Rows.tableEncodeSpecSpec) false w args)
      (Rows.tableEncodeSpecSpec.post enc Tryz.prog Tryz.f3 false true false false) := by
  have h := lifted_gen Tryz.checked progEq os started H enc
  rw [progEq] at h
  exact h
end Go.Proofs.YtodbllcfofohdaaGreatDoor
