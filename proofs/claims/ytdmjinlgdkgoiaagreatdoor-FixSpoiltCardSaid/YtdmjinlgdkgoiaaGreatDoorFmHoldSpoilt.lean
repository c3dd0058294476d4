/- For every message, every place and every other byte there: the frame is refused, and is to be let be. -/
import Derived.Test.YtdmjinlgdkgoiaaGreatDoorFmBa
import Derived.Test.YtdmjinlgdkgoiaaGreatDoorFmBb
import Derived.Test.YtdmjinlgdkgoiaaGreatDoorFmBd
import Derived.Test.YtdmjinlgdkgoiaaGreatDoorFmHoldSpoiltF
import Derived.SevenTiedAt
import Derived.Test.YtdmjinlgdkgoiaaGreatDoorCards
set_option linter.unusedVariables false
set_option linter.unusedSimpArgs false
set_option maxRecDepth 100000
namespace Go.Proofs.YtdmjinlgdkgoiaaGreatDoor
section
open Go
theorem fixSpoilt_closed : joinedFacts Tryz.prog 10 Tryz.f10 Rows.fixSpoiltSpec Rows.fixSpoiltRow = true := by
  unfold joinedFacts; exact band (band (band (band (band (band (band (band (band (band (band (band (band (band (band (band (band (band (band (band (band (band (band (band (band (band (band (band (band (band (band fixSpoilt_wf all_laidOut) all_maps) fixSpoilt_params) fixSpoilt_named1) (show (Rows.fixSpoiltRow.stops == []) = true from rfl)) all_stops) (show (Rows.fixSpoiltRow.knobs == []) = true from rfl)) all_knobs) fixSpoilt_inPlace) fixSpoilt_unf) fixSpoilt_rec) fixSpoilt_named2) fixSpoilt_maps) fixSpoilt_ifaces) fixSpoilt_mapsOut) fixSpoilt_loops) fixSpoilt_wide) fixSpoilt_vars) fixSpoilt_res) fixSpoilt_ifacesOut) fixSpoilt_loopsOut) all_plain) fixSpoilt_short) all_heard) all_enter) all_lifts) all_make) fixSpoilt_kinds) fixSpoilt_pinnedBy) fixSpoilt_veiled) fixSpoilt_veils
theorem fixSpoilt_holds : Rows.FixSpoiltSaid :=
  OpenClaim.holds_of_wide 10 Tryz.f10 rfl rfl rfl rfl rfl rfl rfl ⟨rfl, rfl, rfl, rfl, rfl⟩ rfl rfl rfl rfl rfl fixSpoilt_fn Tryz.func10 fixSpoilt_closed
    (of_decide_eq_true fixSpoilt_inst) fixSpoilt_wrap (fun os started H enc _ => fixSpoilt_lifted os started H enc)
theorem fixSpoilt_card : Rows.FixSpoiltCardSaid :=
  Claim7.holds_tied_plain_at .later [] [.data, .data, .data, .data, .handle, .sentinel, .sentinel, .sentinel, .pinned] true (true, "bdbd21760403a03c2f8fe4da8782411d7634ff79fc9d3b2da9c38d7a04ff1778") true
    fixSpoilt_holds (fun _ h => by cases h) fixSpoilt_text (fun _ h => by cases h) fixSpoilt_row_tie rfl ⟨rfl, rfl⟩ all_main rfl
    (fun f fn hf hfn => by
      obtain rfl : f = 10 := Option.some.inj (fixSpoilt_fn.symm.trans hf) |>.symm
      obtain rfl : fn = Tryz.f10 := (Option.some.inj (Tryz.func10.symm.trans hfn)).symm; exact ⟨all_looks, fun j t ht => by
        have hm := Array.all_eq_true_iff_forall_mem.1 fixSpoilt_stand t (Array.mem_of_getElem? ht); exact (show Tryz.prog.wantsStandIn t = false by simpa using hm)⟩)
    (goes_by all_goes rfl)
#print axioms fixSpoilt_card
end
end Go.Proofs.YtdmjinlgdkgoiaaGreatDoor
