/- For every message: what Encode writes is what the document says. -/
import Derived.Test.YtdmjinlgdkgoiaaGreatDoorFeBg
import Derived.Test.YtdmjinlgdkgoiaaGreatDoorFeBh
import Derived.Test.YtdmjinlgdkgoiaaGreatDoorFeBi
import Derived.SevenTiedAt
import Derived.Test.YtdmjinlgdkgoiaaGreatDoorCards
set_option linter.unusedVariables false
set_option linter.unusedSimpArgs false
set_option maxRecDepth 100000
namespace Go.Proofs.YtdmjinlgdkgoiaaGreatDoor
section
open Go
theorem fixEncodes_fn : Tryz.prog.funcNamed Rows.fixEncodesRow.func = some 3 := by kernel_rfl
theorem fixEncodes_wf : Rows.fixEncodesRow.wf (OpenSpec.ofChange Rows.fixEncodesSpec) = true := by kernel_rfl
theorem fixEncodes_params : Tryz.f3.params.all (Tryz.prog.readableRec ·) = true := by kernel_rfl
theorem fixEncodes_named1 : namedTie Tryz.prog Rows.fixEncodesRow.named Rows.fixEncodesSpec.vars = true := by kernel_rfl
theorem fixEncodes_inPlace : (Rows.fixEncodesRow.inPlace == Tryz.prog.inPlace 3) = true := by kernel_rfl
theorem fixEncodes_unf : (Rows.fixEncodesRow.unfollowed == Tryz.prog.unfollowed 3) = true := by kernel_rfl
theorem fixEncodes_rec : (Rows.fixEncodesRow.recurses == Tryz.prog.recurses 3) = true := by kernel_rfl
theorem fixEncodes_named2 : (Rows.fixEncodesRow.named == Tryz.prog.varsNamed 3) = true := by kernel_rfl
theorem fixEncodes_maps : (Rows.fixEncodesRow.maps == (Tryz.f3.params.toList ++ Rows.fixEncodesSpec.plain.varTypes Tryz.prog).any (Tryz.prog.mapsRec ·)) = true := by kernel_rfl
theorem fixEncodes_ifaces : (Rows.fixEncodesRow.ifaces == (Tryz.f3.params.toList ++ Rows.fixEncodesSpec.plain.varTypes Tryz.prog).any (Tryz.prog.ifacesRec ·)) = true := by kernel_rfl
theorem fixEncodes_mapsOut : (Rows.fixEncodesRow.mapsOut == Tryz.prog.mapsAmong Tryz.f3.resultTypes.toList) = true := by kernel_rfl
theorem fixEncodes_loops : (Rows.fixEncodesRow.loops == (Tryz.f3.params.toList ++ Rows.fixEncodesSpec.plain.varTypes Tryz.prog).any (Tryz.prog.loopsFrom ·)) = true := by kernel_rfl
theorem fixEncodes_wide : (Rows.fixEncodesRow.wideKeys == (Tryz.f3.params.toList ++ Rows.fixEncodesSpec.plain.varTypes Tryz.prog ++ Tryz.f3.resultTypes.toList).any (Tryz.prog.wideKeysFrom ·)) = true := by kernel_rfl
theorem fixEncodes_vars : Rows.fixEncodesSpec.vars.all (Tryz.prog.varReadable ·) = true := by kernel_rfl
theorem fixEncodes_res : Tryz.f3.resultTypes.all (fun t => Tryz.prog.readableRec t && decide (t < Tryz.prog.types.size)) = true := by kernel_rfl
theorem fixEncodes_ifacesOut : (Rows.fixEncodesRow.ifacesOut == Tryz.f3.resultTypes.toList.any (Tryz.prog.ifacesRec ·)) = true := by kernel_rfl
theorem fixEncodes_loopsOut : (Rows.fixEncodesRow.loopsOut == Tryz.f3.resultTypes.toList.any (Tryz.prog.loopsFrom ·)) = true := by kernel_rfl
theorem fixEncodes_short : Rows.fixEncodesRow.shortTexts.isNone = true := by kernel_rfl
theorem fixEncodes_kinds : (Rows.fixEncodesRow.kinds == (if Rows.fixEncodesRow.domain.isEmpty then [] else Tryz.f3.params.toList.map fun t => match Tryz.prog.underlying t with | some (.int k) => some k | _ => none)) = true := by kernel_rfl
theorem fixEncodes_pinnedBy : (Rows.fixEncodesRow.pinned == Rows.fixEncodesRow.pinnedBy) = true := by kernel_rfl
theorem fixEncodes_veiled : (Rows.fixEncodesRow.veiled == (Tryz.f3.params.toList ++ Rows.fixEncodesSpec.plain.varTypes Tryz.prog ++ Tryz.f3.resultTypes.toList).any (Tryz.prog.veiledRec ·)) = true := by kernel_rfl
theorem fixEncodes_veils : Rows.fixEncodesRow.veiledFits Tryz.prog Tryz.f3.params.toList (Tryz.f3.params.toList ++ Rows.fixEncodesSpec.plain.varTypes Tryz.prog ++ Tryz.f3.resultTypes.toList) = true := by kernel_rfl
theorem fixEncodes_text : Rows.fixEncodesRow.wfByText (OpenSpec.ofChange Rows.fixEncodesSpec) = true := by kernel_rfl
theorem fixEncodes_stand : (Tryz.f3.params.all fun u => !Tryz.prog.wantsStandIn u) = true := by kernel_rfl
theorem fixEncodes_closed : joinedFacts Tryz.prog 3 Tryz.f3 Rows.fixEncodesSpec Rows.fixEncodesRow = true := by
 unfold joinedFacts; exact band (band (band (band (band (band (band (band (band (band (band (band (band (band (band (band (band (band (band (band (band (band (band (band (band (band (band (band (band (band (band fixEncodes_wf all_laidOut) all_maps) fixEncodes_params) fixEncodes_named1) (show (Rows.fixEncodesRow.stops == []) = true from rfl)) all_stops) (show (Rows.fixEncodesRow.knobs == []) = true from rfl)) all_knobs) fixEncodes_inPlace) fixEncodes_unf) fixEncodes_rec) fixEncodes_named2) fixEncodes_maps) fixEncodes_ifaces) fixEncodes_mapsOut) fixEncodes_loops) fixEncodes_wide) fixEncodes_vars) fixEncodes_res) fixEncodes_ifacesOut) fixEncodes_loopsOut) all_plain) fixEncodes_short) all_heard) all_enter) all_lifts) all_make) fixEncodes_kinds) fixEncodes_pinnedBy) fixEncodes_veiled) fixEncodes_veils
theorem fixEncodes_inst : decide (Tryz.f3.isInstance Tryz.prog Rows.fixEncodesRow.origin Rows.fixEncodesRow.targs) = true := by kernel_rfl
theorem fixEncodes_wrap : Tryz.f3.isWrapper Tryz.prog Rows.fixEncodesRow.wrapper Rows.fixEncodesRow.mainSum := by
 unfold Func.isWrapper; first | (rw [if_pos (by decide +kernel)]; kernel_rfl) | (rw [if_neg (by decide +kernel)]; exact ⟨rfl, rfl⟩)
theorem fixEncodes_holds : Rows.FixEncodesSaid :=
 OpenClaim.holds_of_wide 3 Tryz.f3 rfl rfl rfl rfl rfl rfl rfl ⟨rfl, rfl, rfl, rfl, rfl⟩ rfl rfl rfl rfl rfl fixEncodes_fn Tryz.func3 fixEncodes_closed
  (of_decide_eq_true fixEncodes_inst) fixEncodes_wrap (fun os started H enc _ => fixEncodes_lifted os started H enc)
theorem fixEncodes_card : Rows.FixEncodesCardSaid :=
 Claim7.holds_tied_plain_at .later [] [.data, .data, .data, .data, .sentinel, .sentinel, .sentinel, .pinned] true (true, "bdbd21760403a03c2f8fe4da8782411d7634ff79fc9d3b2da9c38d7a04ff1778") true
  fixEncodes_holds (fun _ h => by cases h) fixEncodes_text (fun _ h => by cases h) fixEncodes_row_tie rfl ⟨rfl, rfl⟩ all_main rfl
  (fun f fn hf hfn => by
    obtain rfl : f = 3 := Option.some.inj (fixEncodes_fn.symm.trans hf) |>.symm
    obtain rfl : fn = Tryz.f3 := (Option.some.inj (Tryz.func3.symm.trans hfn)).symm; exact ⟨all_looks, fun j t ht => by
     have hm := Array.all_eq_true_iff_forall_mem.1 fixEncodes_stand t (Array.mem_of_getElem? ht); exact (show Tryz.prog.wantsStandIn t = false by simpa using hm)⟩)
  (goes_by all_goes rfl)
#print axioms fixEncodes_card
end
end Go.Proofs.YtdmjinlgdkgoiaaGreatDoor
