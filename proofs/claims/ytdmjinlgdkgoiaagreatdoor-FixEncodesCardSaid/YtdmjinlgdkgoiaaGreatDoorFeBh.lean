/- Of the layer fix: HoldAll. -/
import Derived.JoinedOf
import Derived.KernelRfl
import Derived.Test.YtdmjinlgdkgoiaaGreatDoorCards
import Derived.Test.YtdmjinlgdkgoiaaGreatDoorTie
set_option linter.unusedVariables false
set_option linter.unusedSimpArgs false
set_option maxRecDepth 100000
namespace Go.Proofs.YtdmjinlgdkgoiaaGreatDoor
section
open Go
theorem all_laidOut : laidOutB Tryz.prog = true := by kernel_rfl
theorem all_maps : mapsRowed Tryz.prog = true := by kernel_rfl
theorem all_stops : (Tryz.prog.stops == []) = true := by kernel_rfl
theorem all_knobs : (Tryz.prog.stopKnobs == []) = true := by kernel_rfl
theorem all_plain : (Rows.fixTakesRow.plainKeys == Tryz.prog.plainKeys) = true := by kernel_rfl
theorem all_heard : Tryz.prog.stopsHeard = true := by kernel_rfl
theorem all_enter : Tryz.prog.mayEnter = true := by kernel_rfl
theorem all_lifts : (Rows.fixTakesRow.lifted == Tryz.prog.liftsFinal) = true := by kernel_rfl
theorem all_make : (Tryz.prog.make == some Rows.fixTakesRow.make) = true := by kernel_rfl
theorem all_looks : true = Tryz.prog.looks [] := by kernel_rfl
theorem all_main : Tryz.pinned.checked.prog.mainIs = some (true, "bdbd21760403a03c2f8fe4da8782411d7634ff79fc9d3b2da9c38d7a04ff1778".toList) := by kernel_rfl
theorem band {a b : Bool} (ha : a = true) (hb : b = true) : (a && b) = true := by rw [ha, hb]; rfl
end
end Go.Proofs.YtdmjinlgdkgoiaaGreatDoor
