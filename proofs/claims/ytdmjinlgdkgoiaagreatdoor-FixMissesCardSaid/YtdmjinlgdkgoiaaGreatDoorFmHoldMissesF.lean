/- Closed facts on the row of FixMisses. -/
import Derived.Test.YtdmjinlgdkgoiaaGreatDoorFmBa
import Derived.Test.YtdmjinlgdkgoiaaGreatDoorFmBb
import Derived.SevenTiedAt
import Derived.Test.YtdmjinlgdkgoiaaGreatDoorCards
import Derived.JoinedOf
set_option linter.unusedVariables false
set_option linter.unusedSimpArgs false
set_option maxRecDepth 100000
namespace Go.Proofs.YtdmjinlgdkgoiaaGreatDoor
section
open Go
theorem fixMisses_fn : Tryz.prog.funcNamed Rows.fixMissesRow.func = some 11 := by kernel_rfl
theorem fixMisses_wf : Rows.fixMissesRow.wf (OpenSpec.ofChange Rows.fixMissesSpec) = true := by kernel_rfl
theorem fixMisses_params : Tryz.f11.params.all (Tryz.prog.readableRec ·) = true := by kernel_rfl
theorem fixMisses_named1 : namedTie Tryz.prog Rows.fixMissesRow.named Rows.fixMissesSpec.vars = true := by kernel_rfl
theorem fixMisses_inPlace : (Rows.fixMissesRow.inPlace == Tryz.prog.inPlace 11) = true := by kernel_rfl
theorem fixMisses_unf : (Rows.fixMissesRow.unfollowed == Tryz.prog.unfollowed 11) = true := by kernel_rfl
theorem fixMisses_rec : (Rows.fixMissesRow.recurses == Tryz.prog.recurses 11) = true := by kernel_rfl
theorem fixMisses_named2 : (Rows.fixMissesRow.named == Tryz.prog.varsNamed 11) = true := by kernel_rfl
theorem fixMisses_maps : (Rows.fixMissesRow.maps == (Tryz.f11.params.toList ++ Rows.fixMissesSpec.plain.varTypes Tryz.prog).any (Tryz.prog.mapsRec ·)) = true := by kernel_rfl
theorem fixMisses_ifaces : (Rows.fixMissesRow.ifaces == (Tryz.f11.params.toList ++ Rows.fixMissesSpec.plain.varTypes Tryz.prog).any (Tryz.prog.ifacesRec ·)) = true := by kernel_rfl
theorem fixMisses_mapsOut : (Rows.fixMissesRow.mapsOut == Tryz.prog.mapsAmong Tryz.f11.resultTypes.toList) = true := by kernel_rfl
theorem fixMisses_loops : (Rows.fixMissesRow.loops == (Tryz.f11.params.toList ++ Rows.fixMissesSpec.plain.varTypes Tryz.prog).any (Tryz.prog.loopsFrom ·)) = true := by kernel_rfl
theorem fixMisses_wide : (Rows.fixMissesRow.wideKeys == (Tryz.f11.params.toList ++ Rows.fixMissesSpec.plain.varTypes Tryz.prog ++ Tryz.f11.resultTypes.toList).any (Tryz.prog.wideKeysFrom ·)) = true := by kernel_rfl
theorem fixMisses_vars : Rows.fixMissesSpec.vars.all (Tryz.prog.varReadable ·) = true := by kernel_rfl
theorem fixMisses_res : Tryz.f11.resultTypes.all (fun t => Tryz.prog.readableRec t && decide (t < Tryz.prog.types.size)) = true := by kernel_rfl
theorem fixMisses_ifacesOut : (Rows.fixMissesRow.ifacesOut == Tryz.f11.resultTypes.toList.any (Tryz.prog.ifacesRec ·)) = true := by kernel_rfl
theorem fixMisses_loopsOut : (Rows.fixMissesRow.loopsOut == Tryz.f11.resultTypes.toList.any (Tryz.prog.loopsFrom ·)) = true := by kernel_rfl
theorem fixMisses_short : Rows.fixMissesRow.shortTexts.isNone = true := by kernel_rfl
theorem fixMisses_kinds : (Rows.fixMissesRow.kinds == (if Rows.fixMissesRow.domain.isEmpty then [] else Tryz.f11.params.toList.map fun t => match Tryz.prog.underlying t with | some (.int k) => some k | _ => none)) = true := by kernel_rfl
theorem fixMisses_pinnedBy : (Rows.fixMissesRow.pinned == Rows.fixMissesRow.pinnedBy) = true := by kernel_rfl
theorem fixMisses_veiled : (Rows.fixMissesRow.veiled == (Tryz.f11.params.toList ++ Rows.fixMissesSpec.plain.varTypes Tryz.prog ++ Tryz.f11.resultTypes.toList).any (Tryz.prog.veiledRec ·)) = true := by kernel_rfl
theorem fixMisses_veils : Rows.fixMissesRow.veiledFits Tryz.prog Tryz.f11.params.toList (Tryz.f11.params.toList ++ Rows.fixMissesSpec.plain.varTypes Tryz.prog ++ Tryz.f11.resultTypes.toList) = true := by kernel_rfl
theorem fixMisses_text : Rows.fixMissesRow.wfByText (OpenSpec.ofChange Rows.fixMissesSpec) = true := by kernel_rfl
theorem fixMisses_stand : (Tryz.f11.params.all fun u => !Tryz.prog.wantsStandIn u) = true := by kernel_rfl
theorem fixMisses_inst : decide (Tryz.f11.isInstance Tryz.prog Rows.fixMissesRow.origin Rows.fixMissesRow.targs) = true := by kernel_rfl
theorem fixMisses_wrap : Tryz.f11.isWrapper Tryz.prog Rows.fixMissesRow.wrapper Rows.fixMissesRow.mainSum := by
  unfold Func.isWrapper; first | (rw [if_pos (by decide +kernel)]; kernel_rfl) | (rw [if_neg (by decide +kernel)]; exact ⟨rfl, rfl⟩)
end
end Go.Proofs.YtdmjinlgdkgoiaaGreatDoor
