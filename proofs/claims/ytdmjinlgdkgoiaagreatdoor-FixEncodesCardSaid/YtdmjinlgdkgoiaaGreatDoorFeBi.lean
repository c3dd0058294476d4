/- Of the layer fix: HoldGoes. -/
import Derived.KernelRfl
import Derived.Test.YtdmjinlgdkgoiaaGreatDoorCards
set_option linter.unusedVariables false
set_option linter.unusedSimpArgs false
set_option maxRecDepth 100000
namespace Go.Proofs.YtdmjinlgdkgoiaaGreatDoor
section
open Go
theorem all_goes : Tryz.prog.funcs.any Func.goes = false := by kernel_rfl
theorem goes_none {P : Program} (h : P.funcs.any Func.goes = false) (f : FuncId) : P.goes f = false := by
 unfold Program.goes; rw [h, Bool.and_false, Bool.or_false, List.any_eq_false]; intro g _; cases hg : P.funcs[g]? with
 | none => simp
 | some fn =>
  have h2 := Array.any_eq_false'.1 h fn (Array.mem_of_getElem? hg); simpa using h2
theorem goes_by {P : Program} (h : P.funcs.any Func.goes = false) {c : OpenClaim} (hs : c.start = .entering) : false = c.goesBy P := by
 unfold OpenClaim.goesBy Program.goesAt Program.goesFrom; rw [hs]; cases P.funcNamed c.func with
 | none => rfl
 | some f => simp [goes_none h]
end
end Go.Proofs.YtdmjinlgdkgoiaaGreatDoor
