/- For every message: what may be written is written and read as it was, and one that may not be is refused as msg.Valid says. -/
import Derived.Test.YtdmjinlgdkgoiaaGreatDoorFbAw
import Derived.Test.YtdmjinlgdkgoiaaGreatDoorFbBc
import Derived.Test.YtdmjinlgdkgoiaaGreatDoorFbBi
import Derived.SevenTiedAt
import Derived.Test.YtdmjinlgdkgoiaaGreatDoorCards
set_option linter.unusedVariables false
set_option linter.unusedSimpArgs false
namespace Go.Proofs.YtdmjinlgdkgoiaaGreatDoor
section
open Go
set_option maxRecDepth 100000
theorem fixBack_fn : Tryz.prog.funcNamed Rows.fixBackRow.func = some 8 := by kernel_rfl
theorem fixBack_wf : Rows.fixBackRow.wf (OpenSpec.ofChange Rows.fixBackSpec) = true := by kernel_rfl
theorem fixBack_params : Tryz.f8.params.all (Tryz.prog.readableRec ·) = true := by kernel_rfl
theorem fixBack_named1 : namedTie Tryz.prog Rows.fixBackRow.named Rows.fixBackSpec.vars = true := by kernel_rfl
theorem fixBack_inPlace : (Rows.fixBackRow.inPlace == Tryz.prog.inPlace 8) = true := by kernel_rfl
theorem fixBack_unf : (Rows.fixBackRow.unfollowed == Tryz.prog.unfollowed 8) = true := by kernel_rfl
theorem fixBack_rec : (Rows.fixBackRow.recurses == Tryz.prog.recurses 8) = true := by kernel_rfl
theorem fixBack_named2 : (Rows.fixBackRow.named == Tryz.prog.varsNamed 8) = true := by kernel_rfl
theorem fixBack_maps : (Rows.fixBackRow.maps == (Tryz.f8.params.toList ++ Rows.fixBackSpec.plain.varTypes Tryz.prog).any (Tryz.prog.mapsRec ·)) = true := by kernel_rfl
theorem fixBack_ifaces : (Rows.fixBackRow.ifaces == (Tryz.f8.params.toList ++ Rows.fixBackSpec.plain.varTypes Tryz.prog).any (Tryz.prog.ifacesRec ·)) = true := by kernel_rfl
theorem fixBack_mapsOut : (Rows.fixBackRow.mapsOut == Tryz.prog.mapsAmong Tryz.f8.resultTypes.toList) = true := by kernel_rfl
theorem fixBack_loops : (Rows.fixBackRow.loops == (Tryz.f8.params.toList ++ Rows.fixBackSpec.plain.varTypes Tryz.prog).any (Tryz.prog.loopsFrom ·)) = true := by kernel_rfl
theorem fixBack_wide : (Rows.fixBackRow.wideKeys == (Tryz.f8.params.toList ++ Rows.fixBackSpec.plain.varTypes Tryz.prog ++ Tryz.f8.resultTypes.toList).any (Tryz.prog.wideKeysFrom ·)) = true := by kernel_rfl
theorem fixBack_vars : Rows.fixBackSpec.vars.all (Tryz.prog.varReadable ·) = true := by kernel_rfl
theorem fixBack_res : Tryz.f8.resultTypes.all (fun t => Tryz.prog.readableRec t && decide (t < Tryz.prog.types.size)) = true := by kernel_rfl
theorem fixBack_ifacesOut : (Rows.fixBackRow.ifacesOut == Tryz.f8.resultTypes.toList.any (Tryz.prog.ifacesRec ·)) = true := by kernel_rfl
theorem fixBack_loopsOut : (Rows.fixBackRow.loopsOut == Tryz.f8.resultTypes.toList.any (Tryz.prog.loopsFrom ·)) = true := by kernel_rfl
theorem fixBack_short : Rows.fixBackRow.shortTexts.isNone = true := by kernel_rfl
theorem fixBack_kinds : (Rows.fixBackRow.kinds == (if Rows.fixBackRow.domain.isEmpty then [] else Tryz.f8.params.toList.map fun t => match Tryz.prog.underlying t with | some (.int k) => some k | _ => none)) = true := by kernel_rfl
theorem fixBack_pinnedBy : (Rows.fixBackRow.pinned == Rows.fixBackRow.pinnedBy) = true := by kernel_rfl
theorem fixBack_veiled : (Rows.fixBackRow.veiled == (Tryz.f8.params.toList ++ Rows.fixBackSpec.plain.varTypes Tryz.prog ++ Tryz.f8.resultTypes.toList).any (Tryz.prog.veiledRec ·)) = true := by kernel_rfl
theorem fixBack_veils : Rows.fixBackRow.veiledFits Tryz.prog Tryz.f8.params.toList (Tryz.f8.params.toList ++ Rows.fixBackSpec.plain.varTypes Tryz.prog ++ Tryz.f8.resultTypes.toList) = true := by kernel_rfl
theorem fixBack_text : Rows.fixBackRow.wfByText (OpenSpec.ofChange Rows.fixBackSpec) = true := by kernel_rfl
theorem fixBack_stand : (Tryz.f8.params.all fun u => !Tryz.prog.wantsStandIn u) = true := by kernel_rfl
theorem fixBack_closed : joinedFacts Tryz.prog 8 Tryz.f8 Rows.fixBackSpec Rows.fixBackRow = true := by
  unfold joinedFacts; exact band (band (band (band (band (band (band (band (band (band (band (band (band (band (band (band (band (band (band (band (band (band (band (band (band (band (band (band (band (band (band fixBack_wf all_laidOut) all_maps) fixBack_params) fixBack_named1) (show (Rows.fixBackRow.stops == []) = true from rfl)) all_stops) (show (Rows.fixBackRow.knobs == []) = true from rfl)) all_knobs) fixBack_inPlace) fixBack_unf) fixBack_rec) fixBack_named2) fixBack_maps) fixBack_ifaces) fixBack_mapsOut) fixBack_loops) fixBack_wide) fixBack_vars) fixBack_res) fixBack_ifacesOut) fixBack_loopsOut) all_plain) fixBack_short) all_heard) all_enter) all_lifts) all_make) fixBack_kinds) fixBack_pinnedBy) fixBack_veiled) fixBack_veils
theorem fixBack_inst : decide (Tryz.f8.isInstance Tryz.prog Rows.fixBackRow.origin Rows.fixBackRow.targs) = true := by kernel_rfl
theorem fixBack_wrap : Tryz.f8.isWrapper Tryz.prog Rows.fixBackRow.wrapper Rows.fixBackRow.mainSum := by
  unfold Func.isWrapper
  first | (rw [if_pos (by decide +kernel)]; kernel_rfl) | (rw [if_neg (by decide +kernel)]; exact ⟨rfl, rfl⟩)
theorem fixBack_holds : Rows.FixBackSaid :=
  OpenClaim.holds_of_wide 8 Tryz.f8 rfl rfl rfl rfl rfl rfl rfl ⟨rfl, rfl, rfl, rfl, rfl⟩ rfl rfl rfl rfl rfl fixBack_fn Tryz.func8 fixBack_closed
    (of_decide_eq_true fixBack_inst) fixBack_wrap (fun os started H enc _ => fixBack_lifted os started H enc)
theorem fixBack_card : Rows.FixBackCardSaid :=
  Claim7.holds_tied_plain_at .later [] [.data, .data, .data, .data, .handle, .sentinel, .sentinel, .sentinel, .pinned] true (true, "bdbd21760403a03c2f8fe4da8782411d7634ff79fc9d3b2da9c38d7a04ff1778") true
    fixBack_holds (fun _ h => by cases h) fixBack_text (fun _ h => by cases h) fixBack_row_tie rfl ⟨rfl, rfl⟩ all_main rfl
    (fun f fn hf hfn => by
      obtain rfl : f = 8 := Option.some.inj (fixBack_fn.symm.trans hf) |>.symm
      obtain rfl : fn = Tryz.f8 := (Option.some.inj (Tryz.func8.symm.trans hfn)).symm; exact ⟨all_looks, fun j t ht => by
        have hm := Array.all_eq_true_iff_forall_mem.1 fixBack_stand t (Array.mem_of_getElem? ht); exact (show Tryz.prog.wantsStandIn t = false by simpa using hm)⟩)
    (goes_by all_goes rfl)
#print axioms fixBack_card
end
end Go.Proofs.YtdmjinlgdkgoiaaGreatDoor
