/- Of the layer fix: RowH. -/
import Derived.Test.YtdmjinlgdkgoiaaGreatDoorFbAv
import Derived.LaidHandle
set_option linter.unusedVariables false
set_option linter.unusedSimpArgs false
namespace Go.Proofs.YtdmjinlgdkgoiaaGreatDoor
section
open Go Go.ChangeShapes Go.WideShapes Go.ChangeAt Go.RowKit
set_option maxRecDepth 100000
noncomputable def startH (os : Os) : World :=
  let w := World.holding Tryz.prog os ⟨#[], #[], []⟩
  { w with heap := w.heap.modify 0 fun
      | .cells _ t frozen => .cells #[.iface 249 (.agg #[.pointer (some ⟨10, 31, none⟩)])] t frozen
      | o => o }
noncomputable def laidH (os : Os) : World := (startH os).layVars Tryz.prog Rows.fixTakesRow.laid
theorem laidH_os (os : Os) : (laidH os).os = os := World.layVars_os _ _ _
theorem laidH_shape (os : Os) (args : Array Value) : ((laidH os).forCall (fun _ _ => 0) ⟨#[], args, []⟩).Shaped Tryz.prog := World.shaped_of_ZipB (by kernel_rfl) (by kernel_rfl)
theorem laidH_plain : (Rows.fixBackRow.laid.filter fun x => x.2.handleName?.isNone) = Rows.fixTakesRow.laid := by rfl
theorem laidH_fits (os : Os) : (startH os).layFits Tryz.prog Rows.fixTakesRow.laid [] = true := by kernel_rfl
theorem laidH_ifaces (os : Os) : (startH os).layIfaces Tryz.prog Rows.fixTakesRow.laid (laidH os) = true := by kernel_rfl
theorem laidH_met (os : Os) (args : Array Value) : laidMetH Tryz.prog Rows.fixBackRow.laid ((laidH os).forCall (fun _ _ => 0) ⟨#[], args, []⟩).memory := by
  refine laidMetH_of_parts ?_ (by kernel_rfl); rw [laidH_plain]; obtain ⟨laid, hl⟩ : ∃ l, Rows.fixTakesRow.laid = l := ⟨_, rfl⟩
  have hf := laidH_fits os; have hi := laidH_ifaces os; have e1 : (laid.filter fun x => (laid.map (·.1)).contains x.1) = laid := List.filter_eq_self.2 fun x hx => List.contains_iff_mem.2 (List.mem_map.2 ⟨x, hx, rfl⟩)
  have e2 : (laid.filter fun x => !(laid.map (·.1)).contains x.1) = [] := List.filter_eq_nil_iff.2 fun x hx => by rw [List.contains_iff_mem.2 (List.mem_map.2 ⟨x, hx, rfl⟩)]; simp
  have hq : laidH os = (startH os).layVars Tryz.prog laid := by rw [← hl]; rfl
  rw [hl] at hf hi ⊢; have h : laidMet Tryz.prog laid (laidH os) := laidMet_layVars (w0 := startH os) (laid.map (·.1)) [] (by rw [e1, hq]) (by rw [e1]; exact hf) (by rw [e1]; exact hi) (by rw [e2]; exact LaidIn.none); exact h.of_heap (by simp [World.memory, World.forCall, Input.heap])
theorem parts_of_laid {W : World} (h : laidMetH Tryz.prog Rows.fixBackRow.laid W) : laidMet Tryz.prog Rows.fixTakesRow.laid W ∧ handlesMet Tryz.prog [("errors.errorType", Rows.laid_errors_errorType)] W := h
theorem env_of_laidH {W : World} (h : laidMetH Tryz.prog Rows.fixBackRow.laid W) (hs : W.ShapedOpen Tryz.prog) : Env W :=
  env_of_laid (parts_of_laid h).1 hs (size_of_shaped hs) (by simp [Rows.fixTakesRow]) (by simp [Rows.fixTakesRow])
end
end Go.Proofs.YtdmjinlgdkgoiaaGreatDoor
