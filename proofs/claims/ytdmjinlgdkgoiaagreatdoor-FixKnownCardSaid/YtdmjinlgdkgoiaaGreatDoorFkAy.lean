/- Of the layer fix: Why. -/
import Derived.Test.YtdmjinlgdkgoiaaGreatDoorFkAw
import Derived.Test.YtdmjinlgdkgoiaaGreatDoorFkAx
set_option linter.unusedVariables false
set_option linter.unusedSimpArgs false
set_option maxRecDepth 100000
namespace Go.Proofs.YtdmjinlgdkgoiaaGreatDoor
section
open Go Go.RowKit
set_option maxHeartbeats 6400000
attribute [local go_sem ↓] loadVarMsg
attribute [local go_sem] ba_get loadRowMsg rowOf_new rowOf_old rowOf_drew
theorem as_nil (t : Value) (w : World) : Calls Tryz.prog 66 #[.nilIface, t] w fun e w' => e = .returned (.bool false) ∧ w' = w := by
 go_enter Tryz.func66, Tryz.ntmps66
 go_wp2; go_ret; exact ⟨rfl, rfl⟩
theorem OwnF.kept {w w' : World} {base g : Nat} {v : Value} {l : List Fld} (h : OwnF w base v l) (hT : Keep (fun k => k = g) w w') (hg : g < base) : OwnF w' base v l :=
 World.ownsRow.kept (row := some g) h ⟨hT.os, hT.tape, hT.output, hT.size, fun k hk hn => hT.block k hk (fun e => hn (by rw [e]))⟩ (by
  cases hb : v.ownBlock with
  | none => exact Or.inl rfl
  | some k =>
   right
   intro e; have h1 := h.block hb; have h2 : g = k := by simpa using e.symm
   omega)
theorem whyOk_calls (s : List UInt8) (A : Option Addr) (cap : Nat) (w : World) (hE : Env w) (hs : s.length ≤ 140737488355328) (hcap : s.length ≤ cap) (hcap2 : cap ≤ 9223372036854775807) (hb : Reads w A s) {l : List Fld} (hsp : split s = .inl l) :
 Calls Tryz.prog 26 #[.slice A s.length cap] w fun e w' => WhySay w w' e (why s) := by
 obtain ⟨R, hR⟩ : ∃ R, why s = R := ⟨_, rfl⟩
 rw [hR]; unfold why at hR; have hX1 : Ext w (w.alloc (.cells (msgV noMsg) 23)) := (Ext.refl w).alloc _; have hn1 := heap_alloc_new w (.cells (msgV noMsg) 23); have hsplit := split_calls s A cap (w.alloc (.cells (msgV noMsg) 23)) (hE.ext hX1) hs hcap hcap2 (hb.ext hX1); have hsz0 : (msgV noMsg).size = 42 := by decide
 have HSZ0 := Lib.hid hsz0; have HSPLIT := Lib.hid hsplit; have HX1 := Lib.hid hX1; have HN1 := Lib.hid hn1; have HE := Lib.hid hE; have HNOW : RowKit.Hid (WT noMsg) := Lib.hid (by decide); have HSP := Lib.hid hsp; clear hX1 hn1 hb hE hsplit hsz0; rw [hsp] at HSPLIT hR; dsimp only at hR; obtain ⟨L, hL⟩ : ∃ n, s.length = n := ⟨_, rfl⟩
 rw [hL] at HSPLIT hs hcap ⊢; clear hsp hL; go_enter Tryz.func26, Tryz.ntmps26
 go_wp2_with fail; refine HSPLIT.out.mono ?_; rintro e w2 ⟨⟨v, rfl, hown⟩, hE2⟩; have HX2 := Lib.hid (HX1.out.trans hE2); have HN2 := Lib.hid (hE2.heap HN1.out); have hx3 : Ext w2 (w2.alloc (.cells #[.pointer none] 84)) := (Ext.refl w2).alloc _; obtain ⟨⟨M, f1, f2, f3⟩, hx⟩ : ∃ x, readAll l = x := ⟨_, rfl⟩
 have HREAD := Lib.hid (fun w3 (h : Ext w2 w3) => fixRead_calls v l w3 (HE.out.ext (HX2.out.trans h)) (hown.reads.ext h) (by have := split_count HSP.out; omega) (fun f hf => by have := split_len HSP.out; have := this.2 f hf; omega)); have hsz1 : (w.alloc (.cells (msgV noMsg) 23)).heap.size = w.heap.size + 1 := by simp
 have HOWN : RowKit.Hid (OwnF w2 (w.heap.size + 1) v l) := Lib.hid (hown.more (by omega)); have HPART := Lib.hid (fun w3 (h : Ext w w3) (ho : OwnF w3 (w.heap.size + 1) v l) => partly_calls v l w3 (HE.out.ext h) ho.reads (by have := split_count HSP.out; omega) (fun f hf => by have := split_len HSP.out; have := this.2 f hf; omega)); rw [hx] at HREAD hR; have HX3 := Lib.hid hx3; clear hx hown hE2 HX1 HN1 HSPLIT hx3 hsz1; go_wp2_with fail; refine (as_nil _ _).mono ?_; rintro e w3 ⟨rfl, rfl⟩; go_wp2_with fail; refine (HREAD.out _ HX3.out).mono ?_; rintro e w5 ⟨rfl, hE5, hwt⟩; unfold flawV; dsimp only at hwt hR ⊢; have hwt : WT M := hwt; have HX25 := Lib.hid (HX3.out.trans hE5); have HX5 := Lib.hid (HX2.out.trans HX25.out); have HN5 := Lib.hid (HX25.out.heap HN2.out); have HWT := Lib.hid hwt; have hsz := msgV_size hwt; clear hE5 HX3; go_wp2_with fail; have hA1 : Ext w5 (w5.alloc (.cells #[.int .i64 0, .int .i64 0, .int .i64 0] 81)) := (Ext.refl _).alloc _; have hb6f := heap_alloc_new w5 (.cells #[.int .i64 0, .int .i64 0, .int .i64 0] 81); generalize hWW : w5.alloc (.cells #[.int .i64 0, .int .i64 0, .int .i64 0] 81) = w6 at hA1 hb6f ⊢; clear hWW; have hN6 := hA1.heap HN5.out; rw [run_storeIn hwt hN6 HSZ0.out]; have hX6 := HX5.out.trans hA1; have hlt : w.heap.size < w5.heap.size := (Array.getElem?_eq_some_iff.1 HN5.out).1; have hlt2 : w2.heap.size ≤ w5.heap.size := HX25.out.size; have hlt1 : w.heap.size < w2.heap.size := (Array.getElem?_eq_some_iff.1 HN2.out).1
 have hX7 := hX6.setRow' (g := w.heap.size) (Nat.le_refl _) (msgV M); have hb7 := heap_setRow (cells := msgV M) hN6; have hb7f := (heap_setRow_ne (cells := msgV M) (g := w.heap.size) (k := w5.heap.size) (w := w6) (by omega)).trans hb6f; obtain ⟨hq, hz⟩ := blk_facts hb7f; have q0 := hq 0; have q1 := hq 1; have q2 := hq 2; have z0 := hz 0; have z1 := hz 1; have z2 := hz 2; simp only [List.getElem?_toArray, List.getElem?_cons_zero, List.getElem?_cons_succ] at q0 q1 q2; have hle : w.heap.size ≤ w5.heap.size := by omega
 have hX8 := ((hX7.setCell (p := ⟨w5.heap.size, 0, none⟩) hle (.int .i64 f1)).setCell (p := ⟨w5.heap.size, 1, none⟩) hle (.int .i64 f2)).setCell (p := ⟨w5.heap.size, 2, none⟩) hle (.int .i64 f3); have hne : ∀ k, k ≠ w5.heap.size → ∀ (t : World), ((((t.setCell ⟨w5.heap.size, 0, none⟩ (.int .i64 f1)).setCell ⟨w5.heap.size, 1, none⟩ (.int .i64 f2)).setCell ⟨w5.heap.size, 2, none⟩ (.int .i64 f3))).heap[k]? = t.heap[k]? := fun k hk t => by
  rw [Below.heap_setCell _ _ _ _ hk, Below.heap_setCell _ _ _ _ hk, Below.heap_setCell _ _ _ _ hk]
 have hk8 : Keep (fun k => k = w.heap.size) w5 ((((w6.setRow w.heap.size (msgV M)).setCell ⟨w5.heap.size, 0, none⟩ (.int .i64 f1)).setCell ⟨w5.heap.size, 1, none⟩ (.int .i64 f2)).setCell ⟨w5.heap.size, 2, none⟩ (.int .i64 f3)) :=
  ⟨hA1.os, hA1.tape, hA1.output, by rw [World.size_setCell, World.size_setCell, World.size_setCell, setRow_size]; exact hA1.size, fun k hk hn => (hne k (by omega) _).trans ((heap_setRow_ne hn).trans (hA1.block k hk))⟩
 have HO8 := Lib.hid ((HOWN.out.ext HX25.out).kept hk8 (by omega)); have hb8 := (hne _ (by omega) _).trans hb7; have hb8f := set_blk (o := 2) (u := .int .i64 f3) (set_blk (o := 1) (u := .int .i64 f2) (set_blk (o := 0) (u := .int .i64 f1) hb7f)); obtain ⟨hr, _⟩ := blk_facts hb8f; have r0 := hr 0; have r2 := hr 2; simp at r0 r2; have HX8 := Lib.hid hX8; have HB8 := Lib.hid hb8; have HR0 := Lib.hid r0; have HR2 := Lib.hid r2; have HLT := Lib.hid hlt; have HLT1 := Lib.hid hlt1; clear hk8 HOWN hA1 hX6 hN6 hb6f hX7 hb7 hb7f hq hz hX8 hne hb8 hb8f hr r2 hlt hlt1 hlt2 hle HX5 HN5 HX2 HN2 HREAD; by_cases h0 : f1 = 0
 · subst h0; have e : R = (0, 0, M) := by rw [← hR]; rfl
   subst e; clear hR; go_wp2_with fail; refine wp_region_rsteps (Turn w.heap.size (.cells (msgV M) 23)) (fun _ => by kernel_rfl) [.is (.agg (msgV M)), .is (.int .i64 0), .is (.int .i64 0), .set] (by kernel_rfl) ?_ ?_
   · refine And.intro ?_ (And.intro ?_ (And.intro ?_ (And.intro ?_ (True.intro))))
     · intro ρ w' hE hB hD; have hrow := rowOf_blk ((hE.one (Array.getElem?_eq_some_iff.1 HB8.out).1).elim (fun h => h.trans HB8.out) id); have hsz := msgV_size HWT.out; have e4 : ρ (.tmp 4) = _ := hB (.tmp 4) rfl; clear hB hD; refine .inl ⟨rfl, ?_⟩; unfold Gives; go_simp; first | done | exact yr1 | exact yr0 | exact yr2
     · intro ρ w' hE hB hD; have ec : ∀ c, ρ (.const c) = c := fun c => hB (.const c) rfl
       clear hB hD; refine .inl ⟨rfl, ?_⟩; unfold Gives; go_simp; first | done | exact yr1 | exact yr0 | exact yr2
     · intro ρ w' hE hB hD; have ec : ∀ c, ρ (.const c) = c := fun c => hB (.const c) rfl
       clear hB hD; refine .inl ⟨rfl, ?_⟩; unfold Gives; go_simp; first | done | exact yr1 | exact yr0 | exact yr2
     · intro ρ w' hE hB hD; have e4 : ρ (.tmp 4) = _ := hB (.tmp 4) rfl; have e26 : ρ (.tmp 26) = .agg (msgV M) := hD 0 26 rfl rfl; clear hB hD; refine .inl ⟨rfl, ?_⟩; exact gives_turn hE e4 e26 HWT.out HB8.out (msgV_size HWT.out)
   · intro a' wz hE1 hd' hs' hB' hP' hN'; obtain ⟨_, b2⟩ := hN' 3 rfl; change Rl.Post.p Rl.Post.set _ _ at b2; have e2 : a'.eval (.tmp 2) = .int .i64 0 := hP' 1 2 rfl; have e3 : a'.eval (.tmp 3) = .int .i64 0 := hP' 2 3 rfl; have e4 := hB' (.tmp 4) rfl; clear hB' hP' hN' hs'; go_wp2; exact why_ret HWT.out b2.1 e2 e3 e4 hd' ⟨rfl, hE1.ext HX8.out (Nat.le_refl _), HWT.out⟩
 · have h1 : (f1 == 0) = false := by simpa using h0
   obtain ⟨P, hP⟩ : ∃ q, partly l = q := ⟨_, rfl⟩
   have e : R = (answer f1, f3, P) := by rw [← hR]; simp only [h1]; rw [hP]; rfl
   subst e; rw [hP] at HPART; have HWP : RowKit.Hid (WT P) := Lib.hid (by
    rw [← hP]; exact partly_wt (fun f hf => by have := split_len HSP.out; have := this.2 f hf; omega))
   clear hR hP h0; go_wp2_with fail; refine wp_region_rsteps (Turn w.heap.size (.cells (msgV P) 23)) (fun _ => by kernel_rfl) [.is (.pointer (some ⟨w5.heap.size, 0, none⟩)), .is (.int .i64 f1), .is (.int .i64 (answer f1)), .is (.pointer (some ⟨w5.heap.size, 2, none⟩)), .is (.int .i64 f3), .is (v), .is (.agg (msgV P)), .is (.int .i64 (answer f1)), .is (.int .i64 f3), .set] (by kernel_rfl) ?_ ?_
   · refine And.intro ?_ (And.intro ?_ (And.intro ?_ (And.intro ?_ (And.intro ?_ (And.intro ?_ (And.intro ?_ (And.intro ?_ (And.intro ?_ (And.intro ?_ (True.intro))))))))))
     · intro ρ w' hE hB hD; have e8 : ρ (.tmp 8) = _ := hB (.tmp 8) rfl; clear hB hD; refine .inl ⟨rfl, ?_⟩; unfold Gives; go_simp; first | done | exact yr1 | exact yr0 | exact yr2
     · intro ρ w' hE hB hD; have q0 := hE.cell HR0.out (by have := HLT.out; omega); have e27 : ρ (.tmp 27) = .pointer (some ⟨w5.heap.size, 0, none⟩) := hD 0 27 rfl rfl; clear hB hD; refine .inl ⟨rfl, ?_⟩; unfold Gives; go_simp; first | done | exact yr1 | exact yr0 | exact yr2
     · intro ρ w' hE hB hD; have hB0 := fun f => hB (.func f) rfl
       have e28 : ρ (.tmp 28) = .int .i64 f1 := hD 1 28 rfl rfl; clear hB hD; refine .inl ⟨rfl, ?_⟩; refine gives_call ent_fix_answer (hB0 _) ?_; simp only [List.map_cons, List.map_nil, e28]; refine (answer_calls f1 w').mono ?_; rintro e w'' ⟨rfl, rfl⟩; exact ⟨_, rfl, TurnR.ofExt (Ext.refl _), rfl⟩
     · intro ρ w' hE hB hD; have e8 : ρ (.tmp 8) = _ := hB (.tmp 8) rfl; clear hB hD; refine .inl ⟨rfl, ?_⟩; unfold Gives; go_simp; first | done | exact yr1 | exact yr0 | exact yr2
     · intro ρ w' hE hB hD; have q0 := hE.cell HR2.out (by have := HLT.out; omega); have e30 : ρ (.tmp 30) = .pointer (some ⟨w5.heap.size, 2, none⟩) := hD 3 30 rfl rfl; clear hB hD; refine .inl ⟨rfl, ?_⟩; unfold Gives; go_simp; first | done | exact yr1 | exact yr0 | exact yr2
     · intro ρ w' hE hB hD; have e5 : ρ (.tmp 5) = _ := hB (.tmp 5) rfl; clear hB hD; refine .inl ⟨rfl, ?_⟩; unfold Gives; go_simp; first | done | exact yr1 | exact yr0 | exact yr2
     · intro ρ w' hE hB hD; have hB0 := fun f => hB (.func f) rfl
       have e32 : ρ (.tmp 32) = v := hD 5 32 rfl rfl; clear hB hD; refine .inl ⟨rfl, ?_⟩; refine gives_call ent_fix_partly (hB0 _) ?_; simp only [List.map_cons, List.map_nil, e32]; refine (HPART.out w' (hE.ext HX8.out (Nat.le_refl _)) (HO8.out.kept hE.keep (by omega))).mono ?_; rintro e w'' ⟨rfl, h2, h3⟩; exact ⟨_, rfl, TurnR.ofExt h2, rfl⟩
     · intro ρ w' hE hB hD; have e29 : ρ (.tmp 29) = .int .i64 (answer f1) := hD 2 29 rfl rfl; clear hB hD; refine .inl ⟨rfl, ?_⟩; unfold Gives; go_simp; first | done | exact yr1 | exact yr0 | exact yr2
     · intro ρ w' hE hB hD; have e31 : ρ (.tmp 31) = .int .i64 f3 := hD 4 31 rfl rfl; clear hB hD; refine .inl ⟨rfl, ?_⟩; unfold Gives; go_simp; first | done | exact yr1 | exact yr0 | exact yr2
     · intro ρ w' hE hB hD; have e4 : ρ (.tmp 4) = _ := hB (.tmp 4) rfl; have e33 : ρ (.tmp 33) = .agg (msgV P) := hD 6 33 rfl rfl; clear hB hD; refine .inl ⟨rfl, ?_⟩; exact gives_turn hE e4 e33 HWP.out HB8.out (msgV_size HWT.out)
   · intro a' wz hE1 hd' hs' hB' hP' hN'; obtain ⟨_, b2⟩ := hN' 9 rfl; change Rl.Post.p Rl.Post.set _ _ at b2; have e2 : a'.eval (.tmp 2) = .int .i64 (answer f1) := hP' 7 2 rfl; have e3 : a'.eval (.tmp 3) = .int .i64 f3 := hP' 8 3 rfl; have e4 := hB' (.tmp 4) rfl; clear hB' hP' hN' hs'; go_wp2; exact why_ret HWP.out b2.1 e2 e3 e4 hd' ⟨rfl, hE1.ext HX8.out (Nat.le_refl _), HWP.out⟩
end
end Go.Proofs.YtdmjinlgdkgoiaaGreatDoor
