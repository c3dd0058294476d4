/- For every slice of bytes: what Decode takes is a message that may be, and is written as a frame that is read as the same message. -/
import Derived.Test.YtdmjinlgdkgoiaaGreatDoorFbAv
import Derived.Test.YtdmjinlgdkgoiaaGreatDoorFbAw
import Derived.SevenTiedAt
import Derived.Test.YtdmjinlgdkgoiaaGreatDoorCards
set_option linter.unusedVariables false
set_option linter.unusedSimpArgs false
namespace Go.Proofs.YtdmjinlgdkgoiaaGreatDoor
section
open Go
set_option maxRecDepth 100000
theorem fixTakes_fn : Tryz.prog.funcNamed Rows.fixTakesRow.func = some 4 := by kernel_rfl
theorem fixTakes_wf : Rows.fixTakesRow.wf (OpenSpec.ofChange Rows.fixTakesSpec) = true := by kernel_rfl
theorem fixTakes_params : Tryz.f4.params.all (Tryz.prog.readableRec ·) = true := by kernel_rfl
theorem fixTakes_named1 : namedTie Tryz.prog Rows.fixTakesRow.named Rows.fixTakesSpec.vars = true := by kernel_rfl
theorem fixTakes_inPlace : (Rows.fixTakesRow.inPlace == Tryz.prog.inPlace 4) = true := by kernel_rfl
theorem fixTakes_unf : (Rows.fixTakesRow.unfollowed == Tryz.prog.unfollowed 4) = true := by kernel_rfl
theorem fixTakes_rec : (Rows.fixTakesRow.recurses == Tryz.prog.recurses 4) = true := by kernel_rfl
theorem fixTakes_named2 : (Rows.fixTakesRow.named == Tryz.prog.varsNamed 4) = true := by kernel_rfl
theorem fixTakes_maps : (Rows.fixTakesRow.maps == (Tryz.f4.params.toList ++ Rows.fixTakesSpec.plain.varTypes Tryz.prog).any (Tryz.prog.mapsRec ·)) = true := by kernel_rfl
theorem fixTakes_ifaces : (Rows.fixTakesRow.ifaces == (Tryz.f4.params.toList ++ Rows.fixTakesSpec.plain.varTypes Tryz.prog).any (Tryz.prog.ifacesRec ·)) = true := by kernel_rfl
theorem fixTakes_mapsOut : (Rows.fixTakesRow.mapsOut == Tryz.prog.mapsAmong Tryz.f4.resultTypes.toList) = true := by kernel_rfl
theorem fixTakes_loops : (Rows.fixTakesRow.loops == (Tryz.f4.params.toList ++ Rows.fixTakesSpec.plain.varTypes Tryz.prog).any (Tryz.prog.loopsFrom ·)) = true := by kernel_rfl
theorem fixTakes_wide : (Rows.fixTakesRow.wideKeys == (Tryz.f4.params.toList ++ Rows.fixTakesSpec.plain.varTypes Tryz.prog ++ Tryz.f4.resultTypes.toList).any (Tryz.prog.wideKeysFrom ·)) = true := by kernel_rfl
theorem fixTakes_vars : Rows.fixTakesSpec.vars.all (Tryz.prog.varReadable ·) = true := by kernel_rfl
theorem fixTakes_res : Tryz.f4.resultTypes.all (fun t => Tryz.prog.readableRec t && decide (t < Tryz.prog.types.size)) = true := by kernel_rfl
theorem fixTakes_ifacesOut : (Rows.fixTakesRow.ifacesOut == Tryz.f4.resultTypes.toList.any (Tryz.prog.ifacesRec ·)) = true := by kernel_rfl
theorem fixTakes_loopsOut : (Rows.fixTakesRow.loopsOut == Tryz.f4.resultTypes.toList.any (Tryz.prog.loopsFrom ·)) = true := by kernel_rfl
theorem fixTakes_short : Rows.fixTakesRow.shortTexts.isNone = true := by kernel_rfl
theorem fixTakes_kinds : (Rows.fixTakesRow.kinds == (if Rows.fixTakesRow.domain.isEmpty then [] else Tryz.f4.params.toList.map fun t => match Tryz.prog.underlying t with | some (.int k) => some k | _ => none)) = true := by kernel_rfl
theorem fixTakes_pinnedBy : (Rows.fixTakesRow.pinned == Rows.fixTakesRow.pinnedBy) = true := by kernel_rfl
theorem fixTakes_veiled : (Rows.fixTakesRow.veiled == (Tryz.f4.params.toList ++ Rows.fixTakesSpec.plain.varTypes Tryz.prog ++ Tryz.f4.resultTypes.toList).any (Tryz.prog.veiledRec ·)) = true := by kernel_rfl
theorem fixTakes_veils : Rows.fixTakesRow.veiledFits Tryz.prog Tryz.f4.params.toList (Tryz.f4.params.toList ++ Rows.fixTakesSpec.plain.varTypes Tryz.prog ++ Tryz.f4.resultTypes.toList) = true := by kernel_rfl
theorem fixTakes_text : Rows.fixTakesRow.wfByText (OpenSpec.ofChange Rows.fixTakesSpec) = true := by kernel_rfl
theorem fixTakes_goes : false = Rows.fixTakesRow.goesBy Tryz.pinned.checked.prog := by kernel_rfl
theorem fixTakes_stand : (Tryz.f4.params.all fun u => !Tryz.prog.wantsStandIn u) = true := by kernel_rfl
theorem fixTakes_closed : joinedFacts Tryz.prog 4 Tryz.f4 Rows.fixTakesSpec Rows.fixTakesRow = true := by
  unfold joinedFacts; exact band (band (band (band (band (band (band (band (band (band (band (band (band (band (band (band (band (band (band (band (band (band (band (band (band (band (band (band (band (band (band fixTakes_wf all_laidOut) all_maps) fixTakes_params) fixTakes_named1) (show (Rows.fixTakesRow.stops == []) = true from rfl)) all_stops) (show (Rows.fixTakesRow.knobs == []) = true from rfl)) all_knobs) fixTakes_inPlace) fixTakes_unf) fixTakes_rec) fixTakes_named2) fixTakes_maps) fixTakes_ifaces) fixTakes_mapsOut) fixTakes_loops) fixTakes_wide) fixTakes_vars) fixTakes_res) fixTakes_ifacesOut) fixTakes_loopsOut) all_plain) fixTakes_short) all_heard) all_enter) all_lifts) all_make) fixTakes_kinds) fixTakes_pinnedBy) fixTakes_veiled) fixTakes_veils
theorem fixTakes_inst : decide (Tryz.f4.isInstance Tryz.prog Rows.fixTakesRow.origin Rows.fixTakesRow.targs) = true := by kernel_rfl
theorem fixTakes_wrap : Tryz.f4.isWrapper Tryz.prog Rows.fixTakesRow.wrapper Rows.fixTakesRow.mainSum := by
  unfold Func.isWrapper
  first | (rw [if_pos (by decide +kernel)]; kernel_rfl) | (rw [if_neg (by decide +kernel)]; exact ⟨rfl, rfl⟩)
theorem fixTakes_holds : Rows.FixTakesSaid :=
  OpenClaim.holds_of_wide 4 Tryz.f4 rfl rfl rfl rfl rfl rfl rfl ⟨rfl, rfl, rfl, rfl, rfl⟩ rfl rfl rfl rfl rfl fixTakes_fn Tryz.func4 fixTakes_closed
    (of_decide_eq_true fixTakes_inst) fixTakes_wrap (fun os started H enc _ => fixTakes_lifted os started H enc)
theorem fixTakes_card : Rows.FixTakesCardSaid :=
  Claim7.holds_tied_plain_at .later [] [.data, .data, .data, .data, .sentinel, .sentinel, .sentinel, .pinned] true (true, "bdbd21760403a03c2f8fe4da8782411d7634ff79fc9d3b2da9c38d7a04ff1778") true
    fixTakes_holds (fun _ h => by cases h) fixTakes_text (fun _ h => by cases h) fixTakes_row_tie rfl ⟨rfl, rfl⟩ all_main rfl
    (fun f fn hf hfn => by
      obtain rfl : f = 4 := Option.some.inj (fixTakes_fn.symm.trans hf) |>.symm
      obtain rfl : fn = Tryz.f4 := (Option.some.inj (Tryz.func4.symm.trans hfn)).symm; exact ⟨all_looks, fun j t ht => by
        have hm := Array.all_eq_true_iff_forall_mem.1 fixTakes_stand t (Array.mem_of_getElem? ht); exact (show Tryz.prog.wantsStandIn t = false by simpa using hm)⟩)
    fixTakes_goes
#print axioms fixTakes_card
end
end Go.Proofs.YtdmjinlgdkgoiaaGreatDoor
