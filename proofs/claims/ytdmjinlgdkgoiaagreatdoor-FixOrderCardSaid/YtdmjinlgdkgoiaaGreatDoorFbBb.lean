/- Of the layer fix: RowOrder. -/
import Derived.Test.YtdmjinlgdkgoiaaGreatDoorFbAv
import Derived.Test.YtdmjinlgdkgoiaaGreatDoorFbAx
import Derived.Test.YtdmjinlgdkgoiaaGreatDoorFbBa
set_option linter.unusedVariables false
set_option linter.unusedSimpArgs false
namespace Go.Proofs.YtdmjinlgdkgoiaaGreatDoor
section
open Go Go.ChangeShapes Go.WideShapes Go.ChangeAt Go.RowKit
set_option maxRecDepth 100000
theorem fixOrder_met (os : Os) (args : Array Value) : laidMetH Tryz.prog Rows.fixOrderRow.laid ((World.laidAll Tryz.prog os Rows.fixTakesRow.laid).forCall (fun _ _ => 0) ⟨#[], args, []⟩).memory := by
  show laidMetH Tryz.prog Rows.fixTakesRow.laid _
  rw [MakeChecks.laidMetH_plain _ _ _ (by kernel_rfl)]; exact takes_met os args
theorem fixOrder_lifted (os : Os) (started : os.Started) (H : Type) (enc : TypeId × Value → H) :
    ReturnsInHanded {} Tryz.checked os 5 .any (fun w args => (Rows.fixOrderSpec.pre enc Tryz.prog Tryz.f5 [] false w args ∧ laidMetH Tryz.prog Rows.fixOrderRow.laid w) ∧ sizedMet enc Tryz.prog Tryz.f5 (OpenSpec.ofChange Rows.fixOrderSpec) false w args)
      (Rows.fixOrderSpec.post enc Tryz.prog Tryz.f5 false true false false) := by
  refine returns_shaped (C := Tryz.checked) (X := fun w _ => laidMetH Tryz.prog Rows.fixOrderRow.laid w) (fun _ _ _ hh h => h.of_heap hh) ownKnobs started (by kernel_rfl) Tryz.func5
    (ChangeSpec.witness_shaped (enc := enc) (C := Tryz.checked) (os := os) (X := fun w _ => laidMetH Tryz.prog Rows.fixOrderRow.laid w) false (World.laidAll Tryz.prog os Rows.fixTakesRow.laid) #[.agg (msgV noMsg), .slice none 0 0] 8 (World.laidAll_os _ _ _) (takes_shape os _) (by kernel_rfl) (by kernel_rfl) (by kernel_rfl) (fixOrder_met os _)) ?_
  intro W base args ds gs before hshape hval0 hW hwt hL; have hval : ∀ (j : Nat) t v, Tryz.f5.params[j]? = some t → args[j]? = some v → Value.okWide Tryz.prog W .any base t v := hval0; have hW' := hW; obtain ⟨p, q, hA0, hV, rfl, hfz, hnd⟩ := hW; have hA : DataW.TrodAll enc Tryz.prog W 0 (fun _ => true) true [23, 39] args.toList ds p := hA0; obtain ⟨v0, v1, d0, d1, p0, p1, rfl, rfl, rfl, h0, h1⟩ := trodAll_two hA; obtain ⟨rfl, rfl⟩ := trodVars_none hV; have hE : Env W := env_of_laid (l := Rows.fixTakesRow.laid) (by
    have hL : laidMetH Tryz.prog Rows.fixTakesRow.laid W := hL; rw [MakeChecks.laidMetH_plain _ _ _ (by kernel_rfl)] at hL; exact hL) hshape (size_of_shaped hshape) (by simp [Rows.fixTakesRow]) (by simp [Rows.fixTakesRow])
  simp only [List.append_nil] at hW'; have hlt : ∀ x ∈ p0 ++ p1, x.block < W.heap.size := fun x hx => by simpa using hW'.lt x hx
  have fin : ∀ W' : World, Ext W W' → Rows.fixOrderSpec.post enc Tryz.prog Tryz.f5 false true false false W #[v0, v1] (.bool true) W' := fun W' hX =>
    ⟨_, _, _, [], _, [], hW', trodAll_mk1 (shut_bool Tryz.underlying4 true), trodAll_mk2 (Below.trod laidOutAll (by kernel_rfl) (of_decide_eq_true (by kernel_rfl)) h0 hX (fun x hx => hlt x (by simp [hx]))) (Below.trod laidOutAll (by kernel_rfl) (of_decide_eq_true (by kernel_rfl)) h1 hX (fun x hx => hlt x (by simp [hx]))), rfl, Below.frame hX _, fun h => by cases h⟩
  obtain ⟨m, hm, e0⟩ := open_msg (hval 0 23 v0 rfl rfl) h0 (fun n hn => by
    have h9 := List.all_eq_true.1 hwt n (DataW.weights_mem_each (j := 0) (t := 23) (d := d0) rfl rfl n hn); have h8 : n ≤ reachBytes := by simpa using h9
    have h7 : reachBytes = 140737488351232 := rfl; omega)
  subst e0; obtain ⟨fuel, hf⟩ := h1; obtain ⟨a0, len, cap, rfl⟩ := okWide_slice Tryz.underlying39 (hval 1 39 v1 rfl rfl)
  rcases open_ints Tryz.underlying39 Tryz.underlying3 (by kernel_rfl) hf with ⟨hcs, hx⟩ | ⟨a, len', cap', zs, hcs, _, hl, hm2, hz, hx, hcell, hwz⟩
  · simp [Value.cells] at hcs
    obtain ⟨rfl, rfl, rfl⟩ := hcs; refine (fixOrder_calls m hm [] none 0 W hE (fun j hj => by simp at hj) (fun c hc => by simp at hc) (by simp)).mono fun e W' ⟨he, hX⟩ => ?_
    subst he; exact ⟨_, rfl, fin W' hX⟩
  · simp [Value.cells] at hcs
    obtain ⟨rfl, rfl, rfl⟩ := hcs; simp only [Prod.mk.injEq] at hx; obtain ⟨rfl, rfl⟩ := hx; simp only [if_true] at hz; have hs := sized_slice hwt (j := 1) (t := 39) rfl rfl Tryz.underlying39; have hb3 : Tryz.prog.bytesOf 3 = 8 := by kernel_rfl
    have hcap : cap ≤ 140737488351232 := by
      have h1 : (lits (H := H) .i64 (zs.take len)).length + (lits (H := H) .i64 (zs.drop len)).length = cap := by simp [lits]; omega
      have h2 : ((lits (H := H) .i64 (zs.take len)).length + (lits (H := H) .i64 (zs.drop len)).length) * Tryz.prog.bytesOf 3 ≤ 140737488351232 := hs; rw [h1, hb3] at h2; omega
    obtain ⟨mv, hmv⟩ : ∃ l, zs.take len = l := ⟨_, rfl⟩
    have hlen : mv.length = len := by rw [← hmv]; simp; omega
    obtain ⟨b, off, spot⟩ := a; have hmoves : MovesAt W (some ⟨b, off, spot⟩) mv := fun j hj => by
      have hi2 : j < zs.length := by omega
      have hc := hcell j hi2; have hspot : spot = none := by
        have := World.cell?_spot (hcell 0 (by omega))
        simpa [Addr.add] using this
      subst hspot; refine ⟨b, off, rfl, ?_⟩; have e1 : zs.getD j 0 = mv[j] := by subst hmv; simp [List.getD, hi2]
      have e2 : (⟨b, off, none⟩ : Addr).add j = ⟨b, off + j, none⟩ := by unfold Addr.add; split <;> simp_all
      rw [e1, e2] at hc; exact hc
    have hrange : ∀ c ∈ mv, -9223372036854775808 ≤ c ∧ c ≤ 9223372036854775807 := fun c hc => by
      have h9 : (decide (-9223372036854775808 ≤ c) && decide (c ≤ 9223372036854775807)) = true := hwz c (by rw [← hmv] at hc; exact List.mem_of_mem_take hc)
      simpa using h9
    subst hlen; refine (fixOrder_calls m hm mv (some ⟨b, off, spot⟩) cap W hE hmoves hrange (by omega)).mono fun e W' ⟨he, hX⟩ => ?_
    subst he; exact ⟨_, rfl, fin W' hX⟩
end
end Go.Proofs.YtdmjinlgdkgoiaaGreatDoor
