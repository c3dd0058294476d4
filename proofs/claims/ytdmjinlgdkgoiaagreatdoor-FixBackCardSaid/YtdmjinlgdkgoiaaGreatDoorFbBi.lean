/- Of the layer fix: RowBack. -/
import Derived.Test.YtdmjinlgdkgoiaaGreatDoorFbAx
import Derived.Test.YtdmjinlgdkgoiaaGreatDoorFbBd
import Derived.Test.YtdmjinlgdkgoiaaGreatDoorFbBh
set_option linter.unusedVariables false
set_option linter.unusedSimpArgs false
namespace Go.Proofs.YtdmjinlgdkgoiaaGreatDoor
section
open Go Go.ChangeShapes Go.WideShapes Go.ChangeAt Go.RowKit
set_option maxRecDepth 100000
theorem fixBack_lifted (os : Os) (started : os.Started) (H : Type) (enc : TypeId × Value → H) :
    ReturnsInHanded {} Tryz.checked os 8 .any (fun w args => (Rows.fixBackSpec.pre enc Tryz.prog Tryz.f8 [] false w args ∧ laidMetH Tryz.prog Rows.fixBackRow.laid w) ∧ sizedMet enc Tryz.prog Tryz.f8 (OpenSpec.ofChange Rows.fixBackSpec) false w args)
      (Rows.fixBackSpec.post enc Tryz.prog Tryz.f8 false true false false) := by
  refine returns_shaped (C := Tryz.checked) (X := fun w _ => laidMetH Tryz.prog Rows.fixBackRow.laid w) (fun _ _ _ hh h => h.of_heap hh) ownKnobs started (by kernel_rfl) Tryz.func8
    (ChangeSpec.witness_shaped (enc := enc) (C := Tryz.checked) (os := os) (X := fun w _ => laidMetH Tryz.prog Rows.fixBackRow.laid w) false (laidH os) #[.agg (msgV noMsg)] 8 (laidH_os os) (laidH_shape os _) (by kernel_rfl) (by kernel_rfl) (by kernel_rfl) (laidH_met os _)) ?_
  intro W base args ds gs before hshape hval0 hW hwt hL; have hval : ∀ (j : Nat) t v, Tryz.f8.params[j]? = some t → args[j]? = some v → Value.okWide Tryz.prog W .any base t v := hval0; have hW' := hW; obtain ⟨p, q, hA0, hV, rfl, hfz, hnd⟩ := hW; have hA : DataW.TrodAll enc Tryz.prog W 0 (fun _ => true) true [23] args.toList ds p := hA0; obtain ⟨v0, d0, rfl, rfl, h0⟩ := trodAll_one hA; obtain ⟨rfl, rfl⟩ := trodVars_none hV; have hL : laidMetH Tryz.prog Rows.fixBackRow.laid W := hL; have hE : Env W := env_of_laidH hL hshape; simp only [List.append_nil] at hW'; have hlt : ∀ x ∈ p, x.block < W.heap.size := fun x hx => by simpa using hW'.lt x hx
  have fin : ∀ W' : World, Ext W W' → Rows.fixBackSpec.post enc Tryz.prog Tryz.f8 false true false false W #[v0] (.bool true) W' := fun W' hX =>
    ⟨_, _, _, [], _, [], hW', trodAll_mk1 (shut_bool Tryz.underlying4 true), trodAll_mk1 (Below.trod laidOutAll (by kernel_rfl) (of_decide_eq_true (by kernel_rfl)) h0 hX (fun x hx => hlt x (by exact hx))), rfl, Below.frame hX _, fun h => by cases h⟩
  obtain ⟨m, hm, e0⟩ := open_msg (hval 0 23 v0 rfl rfl) h0 (fun n hn => by
    have h9 := List.all_eq_true.1 hwt n (DataW.weights_mem_each (j := 0) (t := 23) (d := d0) rfl rfl n hn); have h8 : n ≤ reachBytes := by simpa using h9
    have h7 : reachBytes = 140737488351232 := rfl; omega)
  subst e0; refine (fixBack_calls m hm W hE).mono fun e W' ⟨he, hX⟩ => ?_
  subst he; exact ⟨_, rfl, fin W' hX⟩
end
end Go.Proofs.YtdmjinlgdkgoiaaGreatDoor
