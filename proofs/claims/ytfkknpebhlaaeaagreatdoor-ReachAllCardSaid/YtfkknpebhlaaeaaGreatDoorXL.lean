/- A part of the proof. -/
import Derived.Test.YtfkknpebhlaaeaaGreatDoorXI
import Derived.Test.YtfkknpebhlaaeaaGreatDoorXK
set_option linter.unusedSimpArgs false
set_option linter.unusedVariables false
set_option linter.unusedSectionVars false
namespace Go.Proofs.YtfkknpebhlaaeaaGreatDoor
open Go Go.ChangeShapes Go.WideShapes Go.ChangeAt Go.WideMaps Go.WideElems Go.RowKit
set_option maxRecDepth 100000
theorem XZ:Tryz.checked.prog=Tryz.prog:=rfl
theorem Sy (C:Checked)(hC:C.prog=Tryz.prog)(os:Os)(started:os.Started)(H:Type)(enc:TypeId×Value->H):
  ReturnsInHanded {} C os 3 .any (fun w args=>(Rows.reachAllSpec.pre enc C.prog Tryz.f3 [] false w args/\laidMetH C.prog laidR w)/\sizedMet enc C.prog Tryz.f3 (OpenSpec.ofChange Rows.reachAllSpec) false w args)
   (Rows.reachAllSpec.post enc C.prog Tryz.f3 false true false false):=
 returnsInHanded_of_change_and (C:=C) (X:=fun w _=>laidMetH C.prog laidR w) (fun _ _ _ hh h=>h.of_heap hh) (hC.symm▸own) started (hC.symm▸Yt) (hC.symm▸Tryz.func3)
  (ChangeSpec.witness_shaped (enc:=enc) (C:=C) (os:=os) (X:=fun w _=>laidMetH C.prog laidR w) false (World.doorLaid Tryz.prog 33 os) Kj 8 rfl (by rw [hC]; exact Sw os _) (by rw [hC]; exact Ys os) (by rw [hC]; exact XY os H enc) (by rw [hC]; exact Sx os H enc) (by rw [hC]; exact XU os _))
  (fun W base args ds gs before hval hW _ _ hL _=>by
   rw [hC] at hval hW hL ⊢;exact Vs H enc W base args ds gs before hval hW hL)
end Go.Proofs.YtfkknpebhlaaeaaGreatDoor
namespace Go.Proofs.YtfkknpebhlaaeaaGreatDoor
open Go Go.ChangeShapes Go.WideShapes Go.ChangeAt Go.WideMaps Go.WideElems Go.RowKit
set_option maxRecDepth 100000
theorem Yw (os:Os)(started:os.Started)(H:Type)(enc:TypeId×Value->H):
  ReturnsInHanded {} Tryz.checked os 3 .any (fun w args=>(Rows.reachAllSpec.pre enc Tryz.prog Tryz.f3 [] false w args/\laidMetH Tryz.prog laidR w)/\sizedMet enc Tryz.prog Tryz.f3 (OpenSpec.ofChange Rows.reachAllSpec) false w args)
   (Rows.reachAllSpec.post enc Tryz.prog Tryz.f3 false true false false):=by
 have h:=Sy Tryz.checked XZ os started H enc;rw [XZ] at h;exact h
end Go.Proofs.YtfkknpebhlaaeaaGreatDoor
namespace Go.Proofs.YtfkknpebhlaaeaaGreatDoor
open Go Go.ChangeShapes Go.WideShapes Go.ChangeAt Go.WideMaps Go.WideElems Go.RowKit
set_option maxRecDepth 100000
theorem AJD:Rows.ReachAllSaid:=
 OpenClaim.holds_of_wide 3 Tryz.f3 rfl rfl rfl rfl rfl rfl rfl ⟨rfl,rfl,rfl,rfl,rfl⟩ rfl rfl rfl rfl rfl namedA Tryz.func3 Yu
  ADK ADL (fun os started H enc _=>Yw os started H enc)
end Go.Proofs.YtfkknpebhlaaeaaGreatDoor
