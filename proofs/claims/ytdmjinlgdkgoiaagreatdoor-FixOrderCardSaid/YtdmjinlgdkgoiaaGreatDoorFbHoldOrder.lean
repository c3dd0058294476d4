/- For every message and all moves: behind the first one the fields of a written frame may stand in any order. -/
import Derived.Test.YtdmjinlgdkgoiaaGreatDoorFbAw
import Derived.Test.YtdmjinlgdkgoiaaGreatDoorFbBb
import Derived.Test.YtdmjinlgdkgoiaaGreatDoorFbBc
import Derived.SevenTiedAt
import Derived.Test.YtdmjinlgdkgoiaaGreatDoorCards
set_option linter.unusedVariables false
set_option linter.unusedSimpArgs false
namespace Go.Proofs.YtdmjinlgdkgoiaaGreatDoor
section
open Go
set_option maxRecDepth 100000
theorem fixOrder_fn : Tryz.prog.funcNamed Rows.fixOrderRow.func = some 5 := by kernel_rfl
theorem fixOrder_wf : Rows.fixOrderRow.wf (OpenSpec.ofChange Rows.fixOrderSpec) = true := by kernel_rfl
theorem fixOrder_params : Tryz.f5.params.all (Tryz.prog.readableRec ·) = true := by kernel_rfl
theorem fixOrder_named1 : namedTie Tryz.prog Rows.fixOrderRow.named Rows.fixOrderSpec.vars = true := by kernel_rfl
theorem fixOrder_inPlace : (Rows.fixOrderRow.inPlace == Tryz.prog.inPlace 5) = true := by kernel_rfl
theorem fixOrder_unf : (Rows.fixOrderRow.unfollowed == Tryz.prog.unfollowed 5) = true := by kernel_rfl
theorem fixOrder_rec : (Rows.fixOrderRow.recurses == Tryz.prog.recurses 5) = true := by kernel_rfl
theorem fixOrder_named2 : (Rows.fixOrderRow.named == Tryz.prog.varsNamed 5) = true := by kernel_rfl
theorem fixOrder_maps : (Rows.fixOrderRow.maps == (Tryz.f5.params.toList ++ Rows.fixOrderSpec.plain.varTypes Tryz.prog).any (Tryz.prog.mapsRec ·)) = true := by kernel_rfl
theorem fixOrder_ifaces : (Rows.fixOrderRow.ifaces == (Tryz.f5.params.toList ++ Rows.fixOrderSpec.plain.varTypes Tryz.prog).any (Tryz.prog.ifacesRec ·)) = true := by kernel_rfl
theorem fixOrder_mapsOut : (Rows.fixOrderRow.mapsOut == Tryz.prog.mapsAmong Tryz.f5.resultTypes.toList) = true := by kernel_rfl
theorem fixOrder_loops : (Rows.fixOrderRow.loops == (Tryz.f5.params.toList ++ Rows.fixOrderSpec.plain.varTypes Tryz.prog).any (Tryz.prog.loopsFrom ·)) = true := by kernel_rfl
theorem fixOrder_wide : (Rows.fixOrderRow.wideKeys == (Tryz.f5.params.toList ++ Rows.fixOrderSpec.plain.varTypes Tryz.prog ++ Tryz.f5.resultTypes.toList).any (Tryz.prog.wideKeysFrom ·)) = true := by kernel_rfl
theorem fixOrder_vars : Rows.fixOrderSpec.vars.all (Tryz.prog.varReadable ·) = true := by kernel_rfl
theorem fixOrder_res : Tryz.f5.resultTypes.all (fun t => Tryz.prog.readableRec t && decide (t < Tryz.prog.types.size)) = true := by kernel_rfl
theorem fixOrder_ifacesOut : (Rows.fixOrderRow.ifacesOut == Tryz.f5.resultTypes.toList.any (Tryz.prog.ifacesRec ·)) = true := by kernel_rfl
theorem fixOrder_loopsOut : (Rows.fixOrderRow.loopsOut == Tryz.f5.resultTypes.toList.any (Tryz.prog.loopsFrom ·)) = true := by kernel_rfl
theorem fixOrder_short : Rows.fixOrderRow.shortTexts.isNone = true := by kernel_rfl
theorem fixOrder_kinds : (Rows.fixOrderRow.kinds == (if Rows.fixOrderRow.domain.isEmpty then [] else Tryz.f5.params.toList.map fun t => match Tryz.prog.underlying t with | some (.int k) => some k | _ => none)) = true := by kernel_rfl
theorem fixOrder_pinnedBy : (Rows.fixOrderRow.pinned == Rows.fixOrderRow.pinnedBy) = true := by kernel_rfl
theorem fixOrder_veiled : (Rows.fixOrderRow.veiled == (Tryz.f5.params.toList ++ Rows.fixOrderSpec.plain.varTypes Tryz.prog ++ Tryz.f5.resultTypes.toList).any (Tryz.prog.veiledRec ·)) = true := by kernel_rfl
theorem fixOrder_veils : Rows.fixOrderRow.veiledFits Tryz.prog Tryz.f5.params.toList (Tryz.f5.params.toList ++ Rows.fixOrderSpec.plain.varTypes Tryz.prog ++ Tryz.f5.resultTypes.toList) = true := by kernel_rfl
theorem fixOrder_text : Rows.fixOrderRow.wfByText (OpenSpec.ofChange Rows.fixOrderSpec) = true := by kernel_rfl
theorem fixOrder_stand : (Tryz.f5.params.all fun u => !Tryz.prog.wantsStandIn u) = true := by kernel_rfl
theorem fixOrder_closed : joinedFacts Tryz.prog 5 Tryz.f5 Rows.fixOrderSpec Rows.fixOrderRow = true := by
  unfold joinedFacts; exact band (band (band (band (band (band (band (band (band (band (band (band (band (band (band (band (band (band (band (band (band (band (band (band (band (band (band (band (band (band (band fixOrder_wf all_laidOut) all_maps) fixOrder_params) fixOrder_named1) (show (Rows.fixOrderRow.stops == []) = true from rfl)) all_stops) (show (Rows.fixOrderRow.knobs == []) = true from rfl)) all_knobs) fixOrder_inPlace) fixOrder_unf) fixOrder_rec) fixOrder_named2) fixOrder_maps) fixOrder_ifaces) fixOrder_mapsOut) fixOrder_loops) fixOrder_wide) fixOrder_vars) fixOrder_res) fixOrder_ifacesOut) fixOrder_loopsOut) all_plain) fixOrder_short) all_heard) all_enter) all_lifts) all_make) fixOrder_kinds) fixOrder_pinnedBy) fixOrder_veiled) fixOrder_veils
theorem fixOrder_inst : decide (Tryz.f5.isInstance Tryz.prog Rows.fixOrderRow.origin Rows.fixOrderRow.targs) = true := by kernel_rfl
theorem fixOrder_wrap : Tryz.f5.isWrapper Tryz.prog Rows.fixOrderRow.wrapper Rows.fixOrderRow.mainSum := by
  unfold Func.isWrapper
  first | (rw [if_pos (by decide +kernel)]; kernel_rfl) | (rw [if_neg (by decide +kernel)]; exact ⟨rfl, rfl⟩)
theorem fixOrder_holds : Rows.FixOrderSaid :=
  OpenClaim.holds_of_wide 5 Tryz.f5 rfl rfl rfl rfl rfl rfl rfl ⟨rfl, rfl, rfl, rfl, rfl⟩ rfl rfl rfl rfl rfl fixOrder_fn Tryz.func5 fixOrder_closed
    (of_decide_eq_true fixOrder_inst) fixOrder_wrap (fun os started H enc _ => fixOrder_lifted os started H enc)
theorem fixOrder_card : Rows.FixOrderCardSaid :=
  Claim7.holds_tied_plain_at .later [] [.data, .data, .data, .data, .sentinel, .sentinel, .sentinel, .pinned] true (true, "bdbd21760403a03c2f8fe4da8782411d7634ff79fc9d3b2da9c38d7a04ff1778") true
    fixOrder_holds (fun _ h => by cases h) fixOrder_text (fun _ h => by cases h) fixOrder_row_tie rfl ⟨rfl, rfl⟩ all_main rfl
    (fun f fn hf hfn => by
      obtain rfl : f = 5 := Option.some.inj (fixOrder_fn.symm.trans hf) |>.symm
      obtain rfl : fn = Tryz.f5 := (Option.some.inj (Tryz.func5.symm.trans hfn)).symm; exact ⟨all_looks, fun j t ht => by
        have hm := Array.all_eq_true_iff_forall_mem.1 fixOrder_stand t (Array.mem_of_getElem? ht); exact (show Tryz.prog.wantsStandIn t = false by simpa using hm)⟩)
    (goes_by all_goes rfl)
#print axioms fixOrder_card
end
end Go.Proofs.YtdmjinlgdkgoiaaGreatDoor
