/- For every number: the examples of the chapter. -/
import Derived.Test.YtdmjinlgdkgoiaaGreatDoorFkAz
import Derived.Test.YtdmjinlgdkgoiaaGreatDoorFkBa
import Derived.Test.YtdmjinlgdkgoiaaGreatDoorFkBb
import Derived.SevenTiedAt
import Derived.Test.YtdmjinlgdkgoiaaGreatDoorCards
set_option linter.unusedVariables false
set_option linter.unusedSimpArgs false
set_option maxRecDepth 100000
namespace Go.Proofs.YtdmjinlgdkgoiaaGreatDoor
section
open Go
theorem fixKnown_fn : Tryz.prog.funcNamed Rows.fixKnownRow.func = some 13 := by kernel_rfl
theorem fixKnown_wf : Rows.fixKnownRow.wf (OpenSpec.ofChange Rows.fixKnownSpec) = true := by kernel_rfl
theorem fixKnown_params : Tryz.f13.params.all (Tryz.prog.readableRec ·) = true := by kernel_rfl
theorem fixKnown_named1 : namedTie Tryz.prog Rows.fixKnownRow.named Rows.fixKnownSpec.vars = true := by kernel_rfl
theorem fixKnown_inPlace : (Rows.fixKnownRow.inPlace == Tryz.prog.inPlace 13) = true := by kernel_rfl
theorem fixKnown_unf : (Rows.fixKnownRow.unfollowed == Tryz.prog.unfollowed 13) = true := by kernel_rfl
theorem fixKnown_rec : (Rows.fixKnownRow.recurses == Tryz.prog.recurses 13) = true := by kernel_rfl
theorem fixKnown_named2 : (Rows.fixKnownRow.named == Tryz.prog.varsNamed 13) = true := by kernel_rfl
theorem fixKnown_maps : (Rows.fixKnownRow.maps == (Tryz.f13.params.toList ++ Rows.fixKnownSpec.plain.varTypes Tryz.prog).any (Tryz.prog.mapsRec ·)) = true := by kernel_rfl
theorem fixKnown_ifaces : (Rows.fixKnownRow.ifaces == (Tryz.f13.params.toList ++ Rows.fixKnownSpec.plain.varTypes Tryz.prog).any (Tryz.prog.ifacesRec ·)) = true := by kernel_rfl
theorem fixKnown_mapsOut : (Rows.fixKnownRow.mapsOut == Tryz.prog.mapsAmong Tryz.f13.resultTypes.toList) = true := by kernel_rfl
theorem fixKnown_loops : (Rows.fixKnownRow.loops == (Tryz.f13.params.toList ++ Rows.fixKnownSpec.plain.varTypes Tryz.prog).any (Tryz.prog.loopsFrom ·)) = true := by kernel_rfl
theorem fixKnown_wide : (Rows.fixKnownRow.wideKeys == (Tryz.f13.params.toList ++ Rows.fixKnownSpec.plain.varTypes Tryz.prog ++ Tryz.f13.resultTypes.toList).any (Tryz.prog.wideKeysFrom ·)) = true := by kernel_rfl
theorem fixKnown_vars : Rows.fixKnownSpec.vars.all (Tryz.prog.varReadable ·) = true := by kernel_rfl
theorem fixKnown_res : Tryz.f13.resultTypes.all (fun t => Tryz.prog.readableRec t && decide (t < Tryz.prog.types.size)) = true := by kernel_rfl
theorem fixKnown_ifacesOut : (Rows.fixKnownRow.ifacesOut == Tryz.f13.resultTypes.toList.any (Tryz.prog.ifacesRec ·)) = true := by kernel_rfl
theorem fixKnown_loopsOut : (Rows.fixKnownRow.loopsOut == Tryz.f13.resultTypes.toList.any (Tryz.prog.loopsFrom ·)) = true := by kernel_rfl
theorem fixKnown_short : Rows.fixKnownRow.shortTexts.isNone = true := by kernel_rfl
theorem fixKnown_kinds : (Rows.fixKnownRow.kinds == (if Rows.fixKnownRow.domain.isEmpty then [] else Tryz.f13.params.toList.map fun t => match Tryz.prog.underlying t with | some (.int k) => some k | _ => none)) = true := by kernel_rfl
theorem fixKnown_pinnedBy : (Rows.fixKnownRow.pinned == Rows.fixKnownRow.pinnedBy) = true := by kernel_rfl
theorem fixKnown_veiled : (Rows.fixKnownRow.veiled == (Tryz.f13.params.toList ++ Rows.fixKnownSpec.plain.varTypes Tryz.prog ++ Tryz.f13.resultTypes.toList).any (Tryz.prog.veiledRec ·)) = true := by kernel_rfl
theorem fixKnown_veils : Rows.fixKnownRow.veiledFits Tryz.prog Tryz.f13.params.toList (Tryz.f13.params.toList ++ Rows.fixKnownSpec.plain.varTypes Tryz.prog ++ Tryz.f13.resultTypes.toList) = true := by kernel_rfl
theorem fixKnown_text : Rows.fixKnownRow.wfByText (OpenSpec.ofChange Rows.fixKnownSpec) = true := by kernel_rfl
theorem fixKnown_stand : (Tryz.f13.params.all fun u => !Tryz.prog.wantsStandIn u) = true := by kernel_rfl
theorem fixKnown_closed : joinedFacts Tryz.prog 13 Tryz.f13 Rows.fixKnownSpec Rows.fixKnownRow = true := by
 unfold joinedFacts; exact band (band (band (band (band (band (band (band (band (band (band (band (band (band (band (band (band (band (band (band (band (band (band (band (band (band (band (band (band (band (band fixKnown_wf all_laidOut) all_maps) fixKnown_params) fixKnown_named1) (show (Rows.fixKnownRow.stops == []) = true from rfl)) all_stops) (show (Rows.fixKnownRow.knobs == []) = true from rfl)) all_knobs) fixKnown_inPlace) fixKnown_unf) fixKnown_rec) fixKnown_named2) fixKnown_maps) fixKnown_ifaces) fixKnown_mapsOut) fixKnown_loops) fixKnown_wide) fixKnown_vars) fixKnown_res) fixKnown_ifacesOut) fixKnown_loopsOut) all_plain) fixKnown_short) all_heard) all_enter) all_lifts) all_make) fixKnown_kinds) fixKnown_pinnedBy) fixKnown_veiled) fixKnown_veils
theorem fixKnown_inst : decide (Tryz.f13.isInstance Tryz.prog Rows.fixKnownRow.origin Rows.fixKnownRow.targs) = true := by kernel_rfl
theorem fixKnown_wrap : Tryz.f13.isWrapper Tryz.prog Rows.fixKnownRow.wrapper Rows.fixKnownRow.mainSum := by
 unfold Func.isWrapper; first | (rw [if_pos (by decide +kernel)]; kernel_rfl) | (rw [if_neg (by decide +kernel)]; exact ⟨rfl, rfl⟩)
theorem fixKnown_holds : Rows.FixKnownSaid :=
 OpenClaim.holds_of_wide 13 Tryz.f13 rfl rfl rfl rfl rfl rfl rfl ⟨rfl, rfl, rfl, rfl, rfl⟩ rfl rfl rfl rfl rfl fixKnown_fn Tryz.func13 fixKnown_closed
  (of_decide_eq_true fixKnown_inst) fixKnown_wrap (fun os started H enc _ => fixKnown_lifted os started H enc)
theorem fixKnown_card : Rows.FixKnownCardSaid :=
 Claim7.holds_tied_plain_at .later [] [.data, .data, .data, .data, .handle, .sentinel, .sentinel, .sentinel, .pinned] true (true, "bdbd21760403a03c2f8fe4da8782411d7634ff79fc9d3b2da9c38d7a04ff1778") true
  fixKnown_holds (fun _ h => by cases h) fixKnown_text (fun _ h => by cases h) fixKnown_row_tie rfl ⟨rfl, rfl⟩ all_main rfl
  (fun f fn hf hfn => by
    obtain rfl : f = 13 := Option.some.inj (fixKnown_fn.symm.trans hf) |>.symm
    obtain rfl : fn = Tryz.f13 := (Option.some.inj (Tryz.func13.symm.trans hfn)).symm; exact ⟨all_looks, fun j t ht => by
     have hm := Array.all_eq_true_iff_forall_mem.1 fixKnown_stand t (Array.mem_of_getElem? ht); exact (show Tryz.prog.wantsStandIn t = false by simpa using hm)⟩)
  (goes_by all_goes rfl)
#print axioms fixKnown_card
end
end Go.Proofs.YtdmjinlgdkgoiaaGreatDoor
