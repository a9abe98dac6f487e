/- A part of the proof. -/
import Derived.Test.YthlnefddiceoiaaGreatDoorCards
import Derived.KernelRfl
set_option linter.unusedSimpArgs false
set_option linter.unusedVariables false
set_option linter.unusedSectionVars false
namespace Go.Proofs.YthlnefddiceoiaaGreatDoor
open Go
set_option maxRecDepth 100000
theorem goes_none {P : Program} (h : P.funcs.any Func.goes = false) (f : FuncId) : P.goes f = false := by
  have key : ∀ g : Nat, (P.funcs[g]?).any Func.goes = false := fun g => by
    cases hg : P.funcs[g]? with
    | none => rfl
    | some fn =>
      rw [Array.any_eq_false'] at h
      have := h fn (Array.mem_of_getElem? hg)
      simpa using this
  unfold Program.goes
  rw [h, Bool.and_false, Bool.or_false]
  simp [key]
theorem goesBy_none {c : OpenClaim} {P : Program} (h : P.funcs.any Func.goes = false) : false = c.goesBy P := by
  have e : P.goes = fun _ => false := funext (goes_none h)
  unfold OpenClaim.goesBy Program.goesAt Program.goesFrom
  rw [e]
  cases P.funcNamed c.func <;> cases c.start <;> simp
theorem noneGoes : Tryz.prog.funcs.any Func.goes = false := by kernel_rfl
theorem ADM:false=Rows.reachTurnedRow.goesBy Tryz.prog:=goesBy_none noneGoes
end Go.Proofs.YthlnefddiceoiaaGreatDoor
