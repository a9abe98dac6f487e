/- A part of the proof. -/
import Derived.Test.YtfkknpebhlaaeaaGreatDoorCards
import Derived.KernelRfl
set_option linter.unusedSimpArgs false
set_option linter.unusedVariables false
set_option linter.unusedSectionVars false
namespace Go.Proofs.YtfkknpebhlaaeaaGreatDoor
open Go
set_option maxRecDepth 100000
theorem gn {P:Program}(h:P.funcs.any Func.goes=false)(f:FuncId):P.goes f=false:=by
 have k:∀ g:Nat,(P.funcs[g]?).any Func.goes=false:=fun g=>by
  cases e:P.funcs[g]? with
  |none=>rfl
  |some x=>rw [Array.any_eq_false'] at h;simpa using h x (Array.mem_of_getElem? e)
 unfold Program.goes;rw [h,Bool.and_false,Bool.or_false];simp [k]
theorem gb {c:OpenClaim}{P:Program}(h:P.funcs.any Func.goes=false):false=c.goesBy P:=by
 unfold OpenClaim.goesBy Program.goesAt Program.goesFrom;rw [show P.goes=fun _=>false from funext (gn h)];cases P.funcNamed c.func<;>cases c.start<;>simp
theorem ADM:false=Rows.reachAllRow.goesBy Tryz.prog:=gb (by kernel_rfl)
end Go.Proofs.YtfkknpebhlaaeaaGreatDoor
