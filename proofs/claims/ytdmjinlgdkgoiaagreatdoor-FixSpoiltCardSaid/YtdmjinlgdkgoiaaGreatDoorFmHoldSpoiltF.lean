/- Closed facts on the row of FixSpoilt. -/
import Derived.Test.YtdmjinlgdkgoiaaGreatDoorFmBa
import Derived.Test.YtdmjinlgdkgoiaaGreatDoorFmBb
import Derived.SevenTiedAt
import Derived.Test.YtdmjinlgdkgoiaaGreatDoorCards
import Derived.JoinedOf
set_option linter.unusedVariables false
set_option linter.unusedSimpArgs false
set_option maxRecDepth 100000
namespace Go.Proofs.YtdmjinlgdkgoiaaGreatDoor
section
open Go
theorem fixSpoilt_fn : Tryz.prog.funcNamed Rows.fixSpoiltRow.func = some 10 := by kernel_rfl
theorem fixSpoilt_wf : Rows.fixSpoiltRow.wf (OpenSpec.ofChange Rows.fixSpoiltSpec) = true := by kernel_rfl
theorem fixSpoilt_params : Tryz.f10.params.all (Tryz.prog.readableRec ·) = true := by kernel_rfl
theorem fixSpoilt_named1 : namedTie Tryz.prog Rows.fixSpoiltRow.named Rows.fixSpoiltSpec.vars = true := by kernel_rfl
theorem fixSpoilt_inPlace : (Rows.fixSpoiltRow.inPlace == Tryz.prog.inPlace 10) = true := by kernel_rfl
theorem fixSpoilt_unf : (Rows.fixSpoiltRow.unfollowed == Tryz.prog.unfollowed 10) = true := by kernel_rfl
theorem fixSpoilt_rec : (Rows.fixSpoiltRow.recurses == Tryz.prog.recurses 10) = true := by kernel_rfl
theorem fixSpoilt_named2 : (Rows.fixSpoiltRow.named == Tryz.prog.varsNamed 10) = true := by kernel_rfl
theorem fixSpoilt_maps : (Rows.fixSpoiltRow.maps == (Tryz.f10.params.toList ++ Rows.fixSpoiltSpec.plain.varTypes Tryz.prog).any (Tryz.prog.mapsRec ·)) = true := by kernel_rfl
theorem fixSpoilt_ifaces : (Rows.fixSpoiltRow.ifaces == (Tryz.f10.params.toList ++ Rows.fixSpoiltSpec.plain.varTypes Tryz.prog).any (Tryz.prog.ifacesRec ·)) = true := by kernel_rfl
theorem fixSpoilt_mapsOut : (Rows.fixSpoiltRow.mapsOut == Tryz.prog.mapsAmong Tryz.f10.resultTypes.toList) = true := by kernel_rfl
theorem fixSpoilt_loops : (Rows.fixSpoiltRow.loops == (Tryz.f10.params.toList ++ Rows.fixSpoiltSpec.plain.varTypes Tryz.prog).any (Tryz.prog.loopsFrom ·)) = true := by kernel_rfl
theorem fixSpoilt_wide : (Rows.fixSpoiltRow.wideKeys == (Tryz.f10.params.toList ++ Rows.fixSpoiltSpec.plain.varTypes Tryz.prog ++ Tryz.f10.resultTypes.toList).any (Tryz.prog.wideKeysFrom ·)) = true := by kernel_rfl
theorem fixSpoilt_vars : Rows.fixSpoiltSpec.vars.all (Tryz.prog.varReadable ·) = true := by kernel_rfl
theorem fixSpoilt_res : Tryz.f10.resultTypes.all (fun t => Tryz.prog.readableRec t && decide (t < Tryz.prog.types.size)) = true := by kernel_rfl
theorem fixSpoilt_ifacesOut : (Rows.fixSpoiltRow.ifacesOut == Tryz.f10.resultTypes.toList.any (Tryz.prog.ifacesRec ·)) = true := by kernel_rfl
theorem fixSpoilt_loopsOut : (Rows.fixSpoiltRow.loopsOut == Tryz.f10.resultTypes.toList.any (Tryz.prog.loopsFrom ·)) = true := by kernel_rfl
theorem fixSpoilt_short : Rows.fixSpoiltRow.shortTexts.isNone = true := by kernel_rfl
theorem fixSpoilt_kinds : (Rows.fixSpoiltRow.kinds == (if Rows.fixSpoiltRow.domain.isEmpty then [] else Tryz.f10.params.toList.map fun t => match Tryz.prog.underlying t with | some (.int k) => some k | _ => none)) = true := by kernel_rfl
theorem fixSpoilt_pinnedBy : (Rows.fixSpoiltRow.pinned == Rows.fixSpoiltRow.pinnedBy) = true := by kernel_rfl
theorem fixSpoilt_veiled : (Rows.fixSpoiltRow.veiled == (Tryz.f10.params.toList ++ Rows.fixSpoiltSpec.plain.varTypes Tryz.prog ++ Tryz.f10.resultTypes.toList).any (Tryz.prog.veiledRec ·)) = true := by kernel_rfl
theorem fixSpoilt_veils : Rows.fixSpoiltRow.veiledFits Tryz.prog Tryz.f10.params.toList (Tryz.f10.params.toList ++ Rows.fixSpoiltSpec.plain.varTypes Tryz.prog ++ Tryz.f10.resultTypes.toList) = true := by kernel_rfl
theorem fixSpoilt_text : Rows.fixSpoiltRow.wfByText (OpenSpec.ofChange Rows.fixSpoiltSpec) = true := by kernel_rfl
theorem fixSpoilt_stand : (Tryz.f10.params.all fun u => !Tryz.prog.wantsStandIn u) = true := by kernel_rfl
theorem fixSpoilt_inst : decide (Tryz.f10.isInstance Tryz.prog Rows.fixSpoiltRow.origin Rows.fixSpoiltRow.targs) = true := by kernel_rfl
theorem fixSpoilt_wrap : Tryz.f10.isWrapper Tryz.prog Rows.fixSpoiltRow.wrapper Rows.fixSpoiltRow.mainSum := by
  unfold Func.isWrapper; first | (rw [if_pos (by decide +kernel)]; kernel_rfl) | (rw [if_neg (by decide +kernel)]; exact ⟨rfl, rfl⟩)
end
end Go.Proofs.YtdmjinlgdkgoiaaGreatDoor
