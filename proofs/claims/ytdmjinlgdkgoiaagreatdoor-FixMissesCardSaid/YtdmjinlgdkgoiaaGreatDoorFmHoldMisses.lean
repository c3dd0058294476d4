/- For every message and every choice of a field: without it the frame is refused or was one without it; with it twice it is refused. -/
import Derived.Test.YtdmjinlgdkgoiaaGreatDoorFmAz
import Derived.Test.YtdmjinlgdkgoiaaGreatDoorFmBa
import Derived.Test.YtdmjinlgdkgoiaaGreatDoorFmBb
import Derived.Test.YtdmjinlgdkgoiaaGreatDoorFmHoldMissesF
import Derived.SevenTiedAt
import Derived.Test.YtdmjinlgdkgoiaaGreatDoorCards
set_option linter.unusedVariables false
set_option linter.unusedSimpArgs false
set_option maxRecDepth 100000
namespace Go.Proofs.YtdmjinlgdkgoiaaGreatDoor
section
open Go
theorem fixMisses_closed : joinedFacts Tryz.prog 11 Tryz.f11 Rows.fixMissesSpec Rows.fixMissesRow = true := by
  unfold joinedFacts; exact band (band (band (band (band (band (band (band (band (band (band (band (band (band (band (band (band (band (band (band (band (band (band (band (band (band (band (band (band (band (band fixMisses_wf all_laidOut) all_maps) fixMisses_params) fixMisses_named1) (show (Rows.fixMissesRow.stops == []) = true from rfl)) all_stops) (show (Rows.fixMissesRow.knobs == []) = true from rfl)) all_knobs) fixMisses_inPlace) fixMisses_unf) fixMisses_rec) fixMisses_named2) fixMisses_maps) fixMisses_ifaces) fixMisses_mapsOut) fixMisses_loops) fixMisses_wide) fixMisses_vars) fixMisses_res) fixMisses_ifacesOut) fixMisses_loopsOut) all_plain) fixMisses_short) all_heard) all_enter) all_lifts) all_make) fixMisses_kinds) fixMisses_pinnedBy) fixMisses_veiled) fixMisses_veils
theorem fixMisses_holds : Rows.FixMissesSaid :=
  OpenClaim.holds_of_wide 11 Tryz.f11 rfl rfl rfl rfl rfl rfl rfl ⟨rfl, rfl, rfl, rfl, rfl⟩ rfl rfl rfl rfl rfl fixMisses_fn Tryz.func11 fixMisses_closed
    (of_decide_eq_true fixMisses_inst) fixMisses_wrap (fun os started H enc _ => fixMisses_lifted os started H enc)
theorem fixMisses_card : Rows.FixMissesCardSaid :=
  Claim7.holds_tied_plain_at .later [] [.data, .data, .data, .data, .handle, .sentinel, .sentinel, .sentinel, .pinned] true (true, "bdbd21760403a03c2f8fe4da8782411d7634ff79fc9d3b2da9c38d7a04ff1778") true
    fixMisses_holds (fun _ h => by cases h) fixMisses_text (fun _ h => by cases h) fixMisses_row_tie rfl ⟨rfl, rfl⟩ all_main rfl
    (fun f fn hf hfn => by
      obtain rfl : f = 11 := Option.some.inj (fixMisses_fn.symm.trans hf) |>.symm
      obtain rfl : fn = Tryz.f11 := (Option.some.inj (Tryz.func11.symm.trans hfn)).symm; exact ⟨all_looks, fun j t ht => by
        have hm := Array.all_eq_true_iff_forall_mem.1 fixMisses_stand t (Array.mem_of_getElem? ht); exact (show Tryz.prog.wantsStandIn t = false by simpa using hm)⟩)
    (goes_by all_goes rfl)
#print axioms fixMisses_card
end
end Go.Proofs.YtdmjinlgdkgoiaaGreatDoor
