/- Of the layer fix: Fault, Shown, Takes, Row, RowTakes, RowTakes2, LawBase. -/
import Derived.Test.YtdmjinlgdkgoiaaGreatDoorFeAc
import Derived.Test.YtdmjinlgdkgoiaaGreatDoorFeAn
import Derived.Test.YtdmjinlgdkgoiaaGreatDoorFeAo
import Derived.Test.YtdmjinlgdkgoiaaGreatDoorFeAu
import Derived.Handed
import Derived.Lib.LaidTab
import Derived.LaidLaws
import Derived.MakeChecks
import Derived.Test.YtdmjinlgdkgoiaaGreatDoorTie
import Derived.ProofKit
import Derived.ChangeSame
import Derived.ChangeSlices
import Derived.LaidMore
import Derived.OpenShut
import Derived.Carry
import Derived.JoinedOf
import Derived.Stop.Joined
import Derived.Lay
import Derived.SizedLaws
set_option linter.unusedVariables false
set_option linter.unusedSimpArgs false
set_option maxRecDepth 100000
namespace Go.Proofs.YtdmjinlgdkgoiaaGreatDoor
section
open Go Go.RowKit
set_option maxHeartbeats 6400000
theorem assert84 (v : Value) (w : World) : (Instr.typeAssert (.iface 84 v) 31 84 true).run Tryz.prog w = .ok (.tuple #[v, .bool true]) w := by kernel_rfl
attribute [local go_sem] assert84
def exParts : Array (Nat × Operand) := #[(0, .const (.int .i64 2)), (1, .const (.string ⟨#[65]⟩)), (2, .const (.string ⟨#[66]⟩)), (3, .const (.int .i64 7)), (5, .const (.int .i64 1709210096789)), (9, .const (.string ⟨#[120]⟩))]
theorem wp_buildEx {o : Oper} {a : Act} {w : World} {K : Act → World → Prop} {Q : Exit → Act → World → Prop} (ho : o.op = .build 23 exParts) (h : K (a.put o.dst (.agg (msgV example0))) w) : o.wp Tryz.prog a w K Q := by
 refine wp_build 23 exParts ho (by kernel_rfl) ?_; have e : (Tryz.prog.built 23 (exParts.map fun (i, x) => (i, a.eval x)).toList).getD #[] = msgV example0 := by kernel_rfl
 rw [e]; exact h
theorem example_calls (w : World) : Calls Tryz.prog 37 #[] w fun e w' => e = .returned (.agg (msgV example0)) ∧ Ext w w' := by
 go_enter Tryz.func37, Tryz.ntmps37
 go_wp2_with fail; refine wp_buildEx rfl ?_; go_wp2_with fail; have hsz := msgV_size example0_wt; rw [run_storeIn (g := w.heap.size) example0_wt (heap_alloc_new w _) rfl]; have hb := heap_setRow (cells := msgV example0) (heap_alloc_new w (.cells (msgV noMsg) 23)); have hX : Ext w ((w.alloc (.cells (msgV noMsg) 23)).setRow w.heap.size (msgV example0)) := ((Ext.refl w).alloc _).setRow' (Nat.le_refl _) _; go_wp2; obtain ⟨d, hd1, hd2⟩ := isStruct23; exact bodyPost_ret (results_cell_row rfl _ _ w.heap.size 23 (msgV example0) (0, 0) d (by rfl) hb hd1 (by cases d <;> first | rfl | (exact absurd hd2 (by simp [isRows]))) (by rw [hsz]; kernel_rfl)) rfl ⟨rfl, hX⟩
end
section
open Go Go.RowKit
set_option maxHeartbeats 6400000
attribute [local go_sem ↓] loadVarMsg
attribute [local go_sem] ba_get loadRowMsg rowOf_new rowOf_old rowOf_drew
theorem gives_eqEx {dst : Option Tmp} {x y : Operand} {tyo : TypeId} {pos : String} {after : Array Edge} {gd : Option (Nat × Bool)} {ρ : Operand → Value} {w : World} {R : Value → World → Prop}
 (hx : ρ x = .agg (msgV example0)) (hy : ρ y = .agg (msgV example0)) (h : R (.bool true) w) : Gives Tryz.prog { dst, op := .binOp .eql 23 x y 23, type := tyo, pos, after, guard := gd } ρ w R := by
 unfold Gives; have e : (execOp ρ { dst, op := .binOp .eql 23 x y 23, type := tyo, pos, after, guard := gd }).run Tryz.prog w = .ok (.value (.bool true)) w := by
  simp only [execOp, hx, hy]
  kernel_rfl
 rw [e]; exact h
theorem Own.readsB {w : World} {base : Nat} {v : Value} {s : List UInt8} (h : Own w base 5 v s) : ∃ g cap, v = .slice (some ⟨g, 0, none⟩) s.length cap ∧ s.length ≤ cap ∧ cap ≤ 9223372036854775807 ∧ Reads w (some ⟨g, 0, none⟩) s ∧ base ≤ g ∧ g < w.heap.size := by
 obtain ⟨g, cap, cur, fz, e, hb, hg, hfz, h1, h2, h3, h4⟩ := h.is; have h5 : cap ≤ 9223372036854775807 := Nat.le_trans h2 (by decide); refine ⟨g, cap, e, h1, h5, ⟨fun hp => ⟨⟨g, 0, none⟩, rfl, fun i hi => ?_⟩⟩, hb, (Array.getElem?_eq_some_iff.1 hg).1⟩; have := h.cells e i hi; have e2 : (⟨g, 0, none⟩ : Addr).add i = ⟨g, i, none⟩ := by simp only [Addr.add]; split <;> simp_all
 rw [e2]; exact this
theorem encode_example : encode example0 = (frameOf (fieldsOf example0), 0) ∧ (frameOf (fieldsOf example0)).length ≤ 1024 ∧ decode (frameOf (fieldsOf example0)) = .inl example0 := by
 have hv : (valid example0).1 = 0 := by rw [example0_valid]
 obtain ⟨h1, _, h3⟩ := encode_good example0_wt hv; have h4 := (decode_encode example0_wt hv).1; rw [h1] at h4; exact ⟨h1, h3, h4⟩
theorem shown_calls (w : World) (hE : Env w) : Calls Tryz.prog 14 #[] w fun e w' => e = .returned (.bool true) ∧ Ext w w' := by
 obtain ⟨h1, h2, h3⟩ := encode_example; obtain ⟨h4, h5⟩ := example0_frame; obtain ⟨fr, hfr⟩ : ∃ s, frameOf (fieldsOf example0) = s := ⟨_, rfl⟩
 rw [hfr] at h1 h2 h3 h4 h5; obtain ⟨N, hN⟩ : ∃ n, fr.length = n := ⟨_, rfl⟩
 have HENC := Lib.hid h1; have HDEC := Lib.hid h3; have HE := Lib.hid hE; have hwl : want0.length = 69 := rfl; rw [hwl] at h4; rw [hwl, hN] at h5; have HTAKE := Lib.hid h4; rw [hN] at h2; have HNN := Lib.hid hN; have HN := Lib.hid (And.intro h5 h2); clear h1 h2 h3 h4 h5 hfr hE hwl hN; go_enter Tryz.func14, Tryz.ntmps14
 go_wp2_with fail; refine (example_calls _).mono ?_; rintro e w1 ⟨rfl, hE1⟩; have HE1 := Lib.hid hE1; clear hE1; go_wp2_with fail; refine (encode_calls example0 example0_wt _ (HE.out.ext HE1.out)).mono ?_; rw [HENC.out]; rintro e w2 ⟨⟨v, rfl, hown⟩, hE2⟩; have hown : Own w2 _ 5 v fr := hown; obtain ⟨g, cap, rfl, hc1, hc2, hrd, hbg, hgl⟩ := hown.readsB; have HE2 := Lib.hid (HE1.out.trans hE2); have HRF := Lib.hid hrd; have HDC := Lib.hid (decode_calls fr (some ⟨g, 0, none⟩) cap w2 (HE.out.ext HE2.out) (by have := HNN.out; have := HN.out; omega) hc1 hc2 hrd); rw [HDEC.out, HNN.out] at HDC; rw [HNN.out] at hc1 ⊢; have HCAP : RowKit.Hid ((69 : Int) ≤ (cap : Int) ∧ 69 ≤ cap) := Lib.hid (by have := HN.out; omega); clear hown hE2 hrd hbg hgl hc1 hc2; go_wp2_with fail; refine HDC.out.mono ?_; rintro e w3 ⟨rfl, hE3⟩; have HE3 := Lib.hid (HE2.out.trans hE3); have HRD0 := Lib.hid (HRF.out.ext hE3); clear hE3; have hsz := msgV_size example0_wt; have hb4 := heap_alloc_new w3 (.cells (msgV noMsg) 23); have hx4 : Ext w3 (w3.alloc (.cells (msgV noMsg) 23)) := (Ext.refl _).alloc _
 have hzero : msgV noMsg = #[.int .i64 0, .string ⟨#[]⟩, .string ⟨#[]⟩, .int .i64 0, .bool false, .int .i64 0, .int .i64 0, .int .i64 0, .bool false, .string ⟨#[]⟩, .int .i64 0, .int .i64 0, .int .i64 0, .bool false, .int .i64 0, .int .i64 0, .int .i64 0, .int .i64 0, .string ⟨#[]⟩, .string ⟨#[]⟩, .string ⟨#[]⟩, .string ⟨#[]⟩, .string ⟨#[]⟩, .int .i64 0, .int .i64 0, .int .i64 0, .int .i64 0, .int .i64 0, .int .i64 0, .int .i64 0, .int .i64 0, .int .i64 0, .int .i64 0, .int .i64 0, .int .i64 0, .int .i64 0, .int .i64 0, .int .i64 0, .int .i64 0, .int .i64 0, .int .i64 0, .int .i64 0] := rfl; rw [hzero] at hb4 hx4; have HB4 := Lib.hid hb4; have HX4 := Lib.hid hx4; clear hzero hb4 hx4; go_wp2_with fail; generalize hWW : w3.alloc (.cells #[.int .i64 0, .string ⟨#[]⟩, .string ⟨#[]⟩, .int .i64 0, .bool false, .int .i64 0, .int .i64 0, .int .i64 0, .bool false, .string ⟨#[]⟩, .int .i64 0, .int .i64 0, .int .i64 0, .bool false, .int .i64 0, .int .i64 0, .int .i64 0, .int .i64 0, .string ⟨#[]⟩, .string ⟨#[]⟩, .string ⟨#[]⟩, .string ⟨#[]⟩, .string ⟨#[]⟩, .int .i64 0, .int .i64 0, .int .i64 0, .int .i64 0, .int .i64 0, .int .i64 0, .int .i64 0, .int .i64 0, .int .i64 0, .int .i64 0, .int .i64 0, .int .i64 0, .int .i64 0, .int .i64 0, .int .i64 0, .int .i64 0, .int .i64 0, .int .i64 0, .int .i64 0] 23) = w4 at HB4 HX4 ⊢; clear hWW; rw [run_storeIn example0_wt HB4.out rfl]; have HBM := Lib.hid (heap_setRow (cells := msgV example0) HB4.out)
 have HX5 := Lib.hid (HX4.out.setRow' (g := w3.heap.size) (Nat.le_refl _) (msgV example0)); generalize w4.setRow w3.heap.size (msgV example0) = w5 at HBM HX5 ⊢; have HRD := Lib.hid (HRD0.out.ext HX5.out); have HXW := Lib.hid (HE3.out.trans HX5.out); go_wp2_with (refine stop_region ?_); refine stop_go ?_
 refine wp_region_steps (fun _ => by kernel_rfl) [.is (.int .i64 0), .is (.bool true), .is (.bool true), .is (.nilIface), .is (.bool true), .is (.bool true), .is (.bool true), .is (.agg (msgV example0)), .is (.agg (msgV example0)), .is (.bool true), .is (.bool true), .is (.bool true), .is (.slice (some ⟨g, 0, none⟩) N cap), .is (.int .i64 (N : Int)), .is (.string ⟨#[56, 61, 70, 73, 88, 46, 52, 46, 52, 1, 57, 61, 53, 49, 1, 51, 53, 61, 49, 1, 52, 57, 61, 65, 1, 53, 54, 61, 66, 1, 51, 52, 61, 55, 1, 53, 50, 61, 50, 48, 50, 52, 48, 50, 50, 57, 45, 49, 50, 58, 51, 52, 58, 53, 54, 46, 55, 56, 57, 1, 49, 49, 50, 61, 120, 1, 49, 48, 61]⟩), .is (.int .i64 69), .is (.bool true), .is (.bool true), .is (.bool true), .is (.slice (some ⟨g, 0, none⟩) N cap), .is (.string ⟨#[56, 61, 70, 73, 88, 46, 52, 46, 52, 1, 57, 61, 53, 49, 1, 51, 53, 61, 49, 1, 52, 57, 61, 65, 1, 53, 54, 61, 66, 1, 51, 52, 61, 55, 1, 53, 50, 61, 50, 48, 50, 52, 48, 50, 50, 57, 45, 49, 50, 58, 51, 52, 58, 53, 54, 46, 55, 56, 57, 1, 49, 49, 50, 61, 120, 1, 49, 48, 61]⟩), .is (.int .i64 69), .is (.slice (some ⟨g, 0, none⟩) 69 cap), .is (.string ⟨#[56, 61, 70, 73, 88, 46, 52, 46, 52, 1, 57, 61, 53, 49, 1, 51, 53, 61, 49, 1, 52, 57, 61, 65, 1, 53, 54, 61, 66, 1, 51, 52, 61, 55, 1, 53, 50, 61, 50, 48, 50, 52, 48, 50, 50, 57, 45, 49, 50, 58, 51, 52, 58, 53, 54, 46, 55, 56, 57, 1, 49, 49, 50, 61, 120, 1, 49, 48, 61]⟩), .is (.string ⟨#[56, 61, 70, 73, 88, 46, 52, 46, 52, 1, 57, 61, 53, 49, 1, 51, 53, 61, 49, 1, 52, 57, 61, 65, 1, 53, 54, 61, 66, 1, 51, 52, 61, 55, 1, 53, 50, 61, 50, 48, 50, 52, 48, 50, 50, 57, 45, 49, 50, 58, 51, 52, 58, 53, 54, 46, 55, 56, 57, 1, 49, 49, 50, 61, 120, 1, 49, 48, 61]⟩), .is (.bool true), .is (.bool true), .is (.bool true)] (by kernel_rfl) ?_ ?_
 · refine And.intro ?_ (And.intro ?_ (And.intro ?_ (And.intro ?_ (And.intro ?_ (And.intro ?_ (And.intro ?_ (And.intro ?_ (And.intro ?_ (And.intro ?_ (And.intro ?_ (And.intro ?_ (And.intro ?_ (And.intro ?_ (And.intro ?_ (And.intro ?_ (And.intro ?_ (And.intro ?_ (And.intro ?_ (And.intro ?_ (And.intro ?_ (And.intro ?_ (And.intro ?_ (And.intro ?_ (And.intro ?_ (And.intro ?_ (And.intro ?_ (And.intro ?_ (True.intro))))))))))))))))))))))))))))
   · intro ρ w' hE hB hD; have e2 : ρ (.tmp 2) = _ := hB (.tmp 2) rfl; clear hB hD; refine .inl ⟨rfl, ?_⟩; unfold Gives; go_simp; first | done | exact xr0 | exact xr1
   · intro ρ w' hE hB hD; have ec := ctK hB
     have e16 : ρ (.tmp 16) = .int .i64 0 := hD 0 16 rfl rfl; clear hB hD; refine .inl ⟨rfl, ?_⟩; unfold Gives; go_simp; first | done | exact xr0 | exact xr1
   · intro ρ w' hE hB hD; have e17 : ρ (.tmp 17) = .bool true := hD 1 17 rfl rfl; clear hB hD; refine .inl ⟨rfl, ?_⟩; unfold Gives; go_simp; first | done | exact xr0 | exact xr1
   · intro ρ w' hE hB hD; have e4 : ρ (.tmp 4) = _ := hB (.tmp 4) rfl; have e18 : ρ (.tmp 18) = .bool true := hD 2 18 rfl rfl; clear hB hD; refine .inl ⟨by simp [wantedBy, e18], ?_⟩; unfold Gives; go_simp; first | done | exact xr0 | exact xr1
   · intro ρ w' hE hB hD; have ec := ctK hB
     have e18 : ρ (.tmp 18) = .bool true := hD 2 18 rfl rfl; have e19 : ρ (.tmp 19) = .nilIface := hD 3 19 rfl rfl; clear hB hD; refine .inl ⟨by simp [wantedBy, e18], ?_⟩; unfold Gives; go_simp; first | done | exact xr0 | exact xr1
   · intro ρ w' hE hB hD; have ec := ctK hB
     have e18 : ρ (.tmp 18) = .bool true := hD 2 18 rfl rfl; have e20 : ρ (.tmp 20) = .bool true := hD 4 20 rfl rfl; clear hB hD; refine .inl ⟨rfl, ?_⟩; unfold Gives; go_simp; first | done | exact xr0 | exact xr1
   · intro ρ w' hE hB hD; have e21 : ρ (.tmp 21) = .bool true := hD 5 21 rfl rfl; clear hB hD; refine .inl ⟨rfl, ?_⟩; unfold Gives; go_simp; first | done | exact xr0 | exact xr1
   · intro ρ w' hE hB hD; have hrow := rowOf_blk (hE.heap HBM.out); have hsz := msgV_size example0_wt; have e3 : ρ (.tmp 3) = _ := hB (.tmp 3) rfl; have e22 : ρ (.tmp 22) = .bool true := hD 6 22 rfl rfl; clear hB hD; refine .inl ⟨by simp [wantedBy, e22], ?_⟩; unfold Gives; go_simp; first | done | exact xr0 | exact xr1
   · intro ρ w' hE hB hD; have hB0 := fun f => hB (.func f) rfl
     have e22 : ρ (.tmp 22) = .bool true := hD 6 22 rfl rfl; clear hB hD; refine .inl ⟨by simp [wantedBy, e22], ?_⟩; refine gives_call ent_outcrylaw05_example (hB0 _) ?_; refine (example_calls _).mono ?_; rintro e w'' ⟨rfl, hX⟩; exact ⟨_, rfl, hX, rfl⟩
   · intro ρ w' hE hB hD; have e22 : ρ (.tmp 22) = .bool true := hD 6 22 rfl rfl; have e23 : ρ (.tmp 23) = .agg (msgV example0) := hD 7 23 rfl rfl; have e24 : ρ (.tmp 24) = .agg (msgV example0) := hD 8 24 rfl rfl; clear hB hD; refine .inl ⟨by simp [wantedBy, e22], ?_⟩; unfold Gives; change Gives _ _ _ _ _; exact gives_eqEx e23 e24 ⟨Ext.refl _, rfl⟩
   · intro ρ w' hE hB hD; have ec := ctK hB
     have e22 : ρ (.tmp 22) = .bool true := hD 6 22 rfl rfl; have e25 : ρ (.tmp 25) = .bool true := hD 9 25 rfl rfl; clear hB hD; refine .inl ⟨rfl, ?_⟩; unfold Gives; go_simp; first | done | exact xr0 | exact xr1
   · intro ρ w' hE hB hD; have e26 : ρ (.tmp 26) = .bool true := hD 10 26 rfl rfl; clear hB hD; refine .inl ⟨rfl, ?_⟩; unfold Gives; go_simp; first | done | exact xr0 | exact xr1
   · intro ρ w' hE hB hD; have e1 : ρ (.tmp 1) = _ := hB (.tmp 1) rfl; have e27 : ρ (.tmp 27) = .bool true := hD 11 27 rfl rfl; clear hB hD; refine .inl ⟨by simp [wantedBy, e27], ?_⟩; unfold Gives; go_simp; first | done | exact xr0 | exact xr1
   · intro ρ w' hE hB hD; have e27 : ρ (.tmp 27) = .bool true := hD 11 27 rfl rfl; have e28 : ρ (.tmp 28) = .slice (some ⟨g, 0, none⟩) N cap := hD 12 28 rfl rfl; clear hB hD; refine .inl ⟨by simp [wantedBy, e27], ?_⟩; unfold Gives; go_simp; first | done | exact xr0 | exact xr1
   · intro ρ w' hE hB hD; have e5 : ρ (.tmp 5) = _ := hB (.tmp 5) rfl; have e27 : ρ (.tmp 27) = .bool true := hD 11 27 rfl rfl; clear hB hD; refine .inl ⟨by simp [wantedBy, e27], ?_⟩; unfold Gives; go_simp; first | done | exact xr0 | exact xr1
   · intro ρ w' hE hB hD; have e27 : ρ (.tmp 27) = .bool true := hD 11 27 rfl rfl; have e30 : ρ (.tmp 30) = .string ⟨#[56, 61, 70, 73, 88, 46, 52, 46, 52, 1, 57, 61, 53, 49, 1, 51, 53, 61, 49, 1, 52, 57, 61, 65, 1, 53, 54, 61, 66, 1, 51, 52, 61, 55, 1, 53, 50, 61, 50, 48, 50, 52, 48, 50, 50, 57, 45, 49, 50, 58, 51, 52, 58, 53, 54, 46, 55, 56, 57, 1, 49, 49, 50, 61, 120, 1, 49, 48, 61]⟩ := hD 14 30 rfl rfl; clear hB hD; refine .inl ⟨by simp [wantedBy, e27], ?_⟩; unfold Gives; go_simp; first | done | exact xr0 | exact xr1
   · intro ρ w' hE hB hD; have e27 : ρ (.tmp 27) = .bool true := hD 11 27 rfl rfl; have e29 : ρ (.tmp 29) = .int .i64 (N : Int) := hD 13 29 rfl rfl; have e31 : ρ (.tmp 31) = .int .i64 69 := hD 15 31 rfl rfl; clear hB hD; refine .inl ⟨by simp [wantedBy, e27], ?_⟩; unfold Gives; go_simp; exact ⟨Ext.refl _, congrArg Value.bool (decide_eq_true (by have := HN.out; omega))⟩
   · intro ρ w' hE hB hD; have ec := ctK hB
     have e27 : ρ (.tmp 27) = .bool true := hD 11 27 rfl rfl; have e32 : ρ (.tmp 32) = .bool true := hD 16 32 rfl rfl; clear hB hD; refine .inl ⟨rfl, ?_⟩; unfold Gives; go_simp; first | done | exact xr0 | exact xr1
   · intro ρ w' hE hB hD; have e33 : ρ (.tmp 33) = .bool true := hD 17 33 rfl rfl; clear hB hD; refine .inl ⟨rfl, ?_⟩; unfold Gives; go_simp; first | done | exact xr0 | exact xr1
   · intro ρ w' hE hB hD; have e1 : ρ (.tmp 1) = _ := hB (.tmp 1) rfl; have e34 : ρ (.tmp 34) = .bool true := hD 18 34 rfl rfl; clear hB hD; refine .inl ⟨by simp [wantedBy, e34], ?_⟩; unfold Gives; go_simp; first | done | exact xr0 | exact xr1
   · intro ρ w' hE hB hD; have e5 : ρ (.tmp 5) = _ := hB (.tmp 5) rfl; have e34 : ρ (.tmp 34) = .bool true := hD 18 34 rfl rfl; clear hB hD; refine .inl ⟨by simp [wantedBy, e34], ?_⟩; unfold Gives; go_simp; first | done | exact xr0 | exact xr1
   · intro ρ w' hE hB hD; have e34 : ρ (.tmp 34) = .bool true := hD 18 34 rfl rfl; have e36 : ρ (.tmp 36) = .string ⟨#[56, 61, 70, 73, 88, 46, 52, 46, 52, 1, 57, 61, 53, 49, 1, 51, 53, 61, 49, 1, 52, 57, 61, 65, 1, 53, 54, 61, 66, 1, 51, 52, 61, 55, 1, 53, 50, 61, 50, 48, 50, 52, 48, 50, 50, 57, 45, 49, 50, 58, 51, 52, 58, 53, 54, 46, 55, 56, 57, 1, 49, 49, 50, 61, 120, 1, 49, 48, 61]⟩ := hD 20 36 rfl rfl; clear hB hD; refine .inl ⟨by simp [wantedBy, e34], ?_⟩; unfold Gives; go_simp; first | done | exact xr0 | exact xr1
   · intro ρ w' hE hB hD; have h1 := HCAP.out.1; have h2 := HCAP.out.2; have e34 : ρ (.tmp 34) = .bool true := hD 18 34 rfl rfl; have e35 : ρ (.tmp 35) = .slice (some ⟨g, 0, none⟩) N cap := hD 19 35 rfl rfl; have e37 : ρ (.tmp 37) = .int .i64 69 := hD 21 37 rfl rfl; clear hB hD; refine .inl ⟨by simp [wantedBy, e34], ?_⟩; unfold Gives; go_simp; first | done | exact xr0 | exact xr1
   · intro ρ w' hE hB hD; have hrt := (HRD.out.ext hE).take 69; rw [HTAKE.out] at hrt; have hcv := conv_reads w' (some ⟨g, 0, none⟩) want0 cap hrt; unfold want0 at hcv; simp only [List.length_cons, List.length_nil, Nat.reduceAdd] at hcv; have e34 : ρ (.tmp 34) = .bool true := hD 18 34 rfl rfl; have e38 : ρ (.tmp 38) = .slice (some ⟨g, 0, none⟩) 69 cap := hD 22 38 rfl rfl; clear hB hD; refine .inl ⟨by simp [wantedBy, e34], ?_⟩; unfold Gives; go_simp; first | done | exact xr0 | exact xr1
   · intro ρ w' hE hB hD; have e5 : ρ (.tmp 5) = _ := hB (.tmp 5) rfl; have e34 : ρ (.tmp 34) = .bool true := hD 18 34 rfl rfl; clear hB hD; refine .inl ⟨by simp [wantedBy, e34], ?_⟩; unfold Gives; go_simp; first | done | exact xr0 | exact xr1
   · intro ρ w' hE hB hD; have e34 : ρ (.tmp 34) = .bool true := hD 18 34 rfl rfl; have e39 : ρ (.tmp 39) = .string ⟨#[56, 61, 70, 73, 88, 46, 52, 46, 52, 1, 57, 61, 53, 49, 1, 51, 53, 61, 49, 1, 52, 57, 61, 65, 1, 53, 54, 61, 66, 1, 51, 52, 61, 55, 1, 53, 50, 61, 50, 48, 50, 52, 48, 50, 50, 57, 45, 49, 50, 58, 51, 52, 58, 53, 54, 46, 55, 56, 57, 1, 49, 49, 50, 61, 120, 1, 49, 48, 61]⟩ := hD 23 39 rfl rfl; have e40 : ρ (.tmp 40) = .string ⟨#[56, 61, 70, 73, 88, 46, 52, 46, 52, 1, 57, 61, 53, 49, 1, 51, 53, 61, 49, 1, 52, 57, 61, 65, 1, 53, 54, 61, 66, 1, 51, 52, 61, 55, 1, 53, 50, 61, 50, 48, 50, 52, 48, 50, 50, 57, 45, 49, 50, 58, 51, 52, 58, 53, 54, 46, 55, 56, 57, 1, 49, 49, 50, 61, 120, 1, 49, 48, 61]⟩ := hD 24 40 rfl rfl; clear hB hD; refine .inl ⟨by simp [wantedBy, e34], ?_⟩; unfold Gives; go_simp; first | done | exact xr0 | exact xr1
   · intro ρ w' hE hB hD; have ec := ctK hB
     have e34 : ρ (.tmp 34) = .bool true := hD 18 34 rfl rfl; have e41 : ρ (.tmp 41) = .bool true := hD 25 41 rfl rfl; clear hB hD; refine .inl ⟨rfl, ?_⟩; unfold Gives; go_simp; first | done | exact xr0 | exact xr1
   · intro ρ w' hE hB hD; have e42 : ρ (.tmp 42) = .bool true := hD 26 42 rfl rfl; clear hB hD; refine .inl ⟨rfl, ?_⟩; unfold Gives; go_simp; first | done | exact xr0 | exact xr1
 · intro a' w6 hE1 hd' hs' hB' hP'
   have ha' := act_of_posts [(16, .int .i64 0), (17, .bool true), (18, .bool true), (19, .nilIface), (20, .bool true), (21, .bool true), (22, .bool true), (23, .agg (msgV example0)), (24, .agg (msgV example0)), (25, .bool true), (26, .bool true), (27, .bool true), (28, .slice (some ⟨g, 0, none⟩) N cap), (29, .int .i64 (N : Int)), (30, .string ⟨#[56, 61, 70, 73, 88, 46, 52, 46, 52, 1, 57, 61, 53, 49, 1, 51, 53, 61, 49, 1, 52, 57, 61, 65, 1, 53, 54, 61, 66, 1, 51, 52, 61, 55, 1, 53, 50, 61, 50, 48, 50, 52, 48, 50, 50, 57, 45, 49, 50, 58, 51, 52, 58, 53, 54, 46, 55, 56, 57, 1, 49, 49, 50, 61, 120, 1, 49, 48, 61]⟩), (31, .int .i64 69), (32, .bool true), (33, .bool true), (34, .bool true), (35, .slice (some ⟨g, 0, none⟩) N cap), (36, .string ⟨#[56, 61, 70, 73, 88, 46, 52, 46, 52, 1, 57, 61, 53, 49, 1, 51, 53, 61, 49, 1, 52, 57, 61, 65, 1, 53, 54, 61, 66, 1, 51, 52, 61, 55, 1, 53, 50, 61, 50, 48, 50, 52, 48, 50, 50, 57, 45, 49, 50, 58, 51, 52, 58, 53, 54, 46, 55, 56, 57, 1, 49, 49, 50, 61, 120, 1, 49, 48, 61]⟩), (37, .int .i64 69), (38, .slice (some ⟨g, 0, none⟩) 69 cap), (39, .string ⟨#[56, 61, 70, 73, 88, 46, 52, 46, 52, 1, 57, 61, 53, 49, 1, 51, 53, 61, 49, 1, 52, 57, 61, 65, 1, 53, 54, 61, 66, 1, 51, 52, 61, 55, 1, 53, 50, 61, 50, 48, 50, 52, 48, 50, 50, 57, 45, 49, 50, 58, 51, 52, 58, 53, 54, 46, 55, 56, 57, 1, 49, 49, 50, 61, 120, 1, 49, 48, 61]⟩), (40, .string ⟨#[56, 61, 70, 73, 88, 46, 52, 46, 52, 1, 57, 61, 53, 49, 1, 51, 53, 61, 49, 1, 52, 57, 61, 65, 1, 53, 54, 61, 66, 1, 51, 52, 61, 55, 1, 53, 50, 61, 50, 48, 50, 52, 48, 50, 50, 57, 45, 49, 50, 58, 51, 52, 58, 53, 54, 46, 55, 56, 57, 1, 49, 49, 50, 61, 120, 1, 49, 48, 61]⟩), (41, .bool true), (42, .bool true), (0, .bool true)] hd' hs' hB' (by simp) (by kernel_rfl) (by
    intro p hp; simp only [List.mem_cons, List.mem_nil_iff, or_false] at hp
    rcases hp with rfl | rfl | rfl | rfl | rfl | rfl | rfl | rfl | rfl | rfl | rfl | rfl | rfl | rfl | rfl | rfl | rfl | rfl | rfl | rfl | rfl | rfl | rfl | rfl | rfl | rfl | rfl | rfl
    · exact hP' 0 16 rfl
    · exact hP' 1 17 rfl
    · exact hP' 2 18 rfl
    · exact hP' 3 19 rfl
    · exact hP' 4 20 rfl
    · exact hP' 5 21 rfl
    · exact hP' 6 22 rfl
    · exact hP' 7 23 rfl
    · exact hP' 8 24 rfl
    · exact hP' 9 25 rfl
    · exact hP' 10 26 rfl
    · exact hP' 11 27 rfl
    · exact hP' 12 28 rfl
    · exact hP' 13 29 rfl
    · exact hP' 14 30 rfl
    · exact hP' 15 31 rfl
    · exact hP' 16 32 rfl
    · exact hP' 17 33 rfl
    · exact hP' 18 34 rfl
    · exact hP' 19 35 rfl
    · exact hP' 20 36 rfl
    · exact hP' 21 37 rfl
    · exact hP' 22 38 rfl
    · exact hP' 23 39 rfl
    · exact hP' 24 40 rfl
    · exact hP' 25 41 rfl
    · exact hP' 26 42 rfl
    · exact hP' 27 0 rfl)
   clear hB' hP' hs' hd'; simp only [List.foldl_cons, List.foldl_nil, List.setIfInBounds_toArray, List.set_cons_succ, List.set_cons_zero] at ha'; subst ha'; go_wp2; go_ret; exact ⟨rfl, HXW.out.trans hE1⟩
end
section
open Go Go.RowKit
set_option maxHeartbeats 6400000
attribute [local go_sem ↓] loadVarMsg buildMsg0 eqMsg
attribute [local go_sem] ba_get loadRowMsg rowOf_new rowOf_old rowOf_drew
end
section
open Go Go.RowKit
theorem start3 : ((((begin Tryz.prog (fun _ _ => 0) default).world).heap[3]?).bind Obj.row?) = some (#[.int .i64 0], 3) := by kernel_rfl
theorem most_of_shaped {w : World} (h : w.ShapedOpen Tryz.prog) : ∃ m, w.cell? ⟨3, 0, none⟩ = some (.int .i64 m) := by
 obtain ⟨cs, hb, hsz, hok⟩ := h.1 3 _ _ glob_most start3; have hr := hok (by kernel_rfl); obtain ⟨ts, hts, _, hcell⟩ := hr; have e : Tryz.prog.cellTypes Tryz.prog.depth 3 = some [3] := by kernel_rfl
 rw [e] at hts; obtain rfl := Option.some.inj hts; obtain ⟨l⟩ := cs
 match l, hsz with
 | [v], _ =>
  obtain ⟨u, hu, hv⟩ := hcell 0 v rfl; obtain rfl : 3 = u := by simpa using hu
  have hc : w.cell? ⟨3, 0, none⟩ = some v := by
   have := (blk_facts hb).1 0; simpa using this
  have hu3 : Tryz.prog.underlying 3 = some (.int .i64) := by kernel_rfl
  unfold Go.Cell.ok at hv; rw [hu3] at hv; cases v <;> simp only at hv <;> first | exact hv.elim | skip
  obtain ⟨rfl, _⟩ := hv; exact ⟨_, hc⟩
theorem laid_mem {P : Program} {w : World} {n : String} {d : DataW Unit} : ∀ {l : List (String × DataW Unit)} {ps : List MemPlace}, DataW.LaidVars P w l ps → (n, d) ∈ l →
 ∃ g t cs fuel p, P.globalNamed n = some g ∧ (P.globals[g]?).map (·.type) = some t ∧ w.var? P n = some cs ∧ DataW.trod (fun _ => ()) P w 0 (fun _ => true) false fuel t cs.toList = some (d, p)
 | [], _, _, h => by cases h
 | (n', d') :: r, ps, h, hm => by
   obtain ⟨g, t, cs, fuel, p, q, h1, h2, h3, h4, h5, _⟩ := h; rcases List.mem_cons.1 hm with e | hm
   · cases e
     exact ⟨g, t, cs, fuel, p, h1, h2, h3, h4⟩
   · exact laid_mem h5 hm
theorem gPow : ∃ g, Tryz.prog.globalNamed "internal/strconv.uint64pow10" = some g ∧ ∃ t e n, (Tryz.prog.globals[g]?).map (·.type) = some t ∧ Tryz.prog.underlying t = some (.array n e) ∧ Tryz.prog.underlying e = some (.int .u64) ∧ Tryz.prog.cellsOf e = 1 ∧ Tryz.prog.cellsOf t = n := ⟨_, rfl, _, _, _, rfl, rfl, rfl, rfl, rfl⟩
theorem gRange : ∃ g, Tryz.prog.globalNamed "strconv.ErrRange" = some g ∧ ∃ t ms, (Tryz.prog.globals[g]?).map (·.type) = some t ∧ Tryz.prog.underlying t = some (.interface ms) := ⟨_, rfl, _, _, rfl, rfl⟩
theorem env_of_laid {w : World} {l : List (String × DataW Unit)} (h : laidMet Tryz.prog l w) (hs : w.ShapedOpen Tryz.prog) (hz : Tryz.prog.globals.size ≤ w.heap.size)
 (h1 : ("internal/strconv.uint64pow10", Rows.laid_internal_strconv_uint64pow10) ∈ l) (h2 : ("strconv.ErrRange", Rows.laid_strconv_ErrRange) ∈ l) : Env w := by
 obtain ⟨ps, hv, _⟩ := h; refine ⟨?_, ?_, hz, most_of_shaped hs⟩
 · obtain ⟨g, t, cs, fuel, p, a1, a2, a3, a4⟩ := laid_mem hv h1; obtain ⟨g', b1, t', e, n, b2, b3, b4, b5, b6⟩ := gPow; obtain rfl := Option.some.inj (b1.symm.trans a1); obtain rfl := Option.some.inj (b2.symm.trans a2); unfold Lib.TabIs; rw [a3, ← Lib.cells_of_tab (zs := Lib.pow10Tab) (k := .u64) b3 b4 b5 b6 a4]
 · obtain ⟨g, t, cs, fuel, p, a1, a2, a3, a4⟩ := laid_mem hv h2; obtain ⟨g', b1, t', ms, b2, b3⟩ := gRange; obtain rfl := Option.some.inj (b1.symm.trans a1); obtain rfl := Option.some.inj (b2.symm.trans a2); obtain ⟨_, u, v, hc, _⟩ := iface_of_trod b3 a4; refine ⟨u, v, ?_⟩; rw [a3]; obtain ⟨cs⟩ := cs; simp only at hc; rw [hc]
end
section
open Go Go.ChangeShapes Go.WideShapes Go.ChangeAt Go.RowKit
theorem ownKnobs : ownKnob Tryz.prog.godebug = none := by kernel_rfl
theorem laidOutAll : laidOutB Tryz.prog = true := by kernel_rfl
theorem takes_shape (os : Os) (args : Array Value) : ((World.laidAll Tryz.prog os Rows.fixTakesRow.laid).forCall (fun _ _ => 0) ⟨#[], args, []⟩).Shaped Tryz.prog := World.shaped_of_ZipB (by kernel_rfl) (by kernel_rfl)
theorem takes_met (os : Os) (args : Array Value) : laidMet Tryz.prog Rows.fixTakesRow.laid ((World.laidAll Tryz.prog os Rows.fixTakesRow.laid).forCall (fun _ _ => 0) ⟨#[], args, []⟩).memory :=
 laidMet_laidAll _ (by kernel_rfl) (by kernel_rfl)
end
section
open Go Go.ChangeShapes Go.WideShapes Go.ChangeAt Go.RowKit
section
variable {H : Type} {enc : TypeId × Value → H}
theorem returns_shaped {a : Assume} {C : Checked} {os : Os} {f : FuncId} {fn : Func} {s : ChangeSpec} {conds : List PathCond} {apart fresh handsOn again : Bool} {X : World → Array Value → Prop}
 (hX : ∀ (w w' : World) (args : Array Value), w.heap = w'.heap → X w args → X w' args)
 (own : ownKnob C.prog.godebug = none) (started : os.Started) (noInit : C.prog.inits.idxOf? f = none) (hfn : C.prog.funcs[f]? = some fn)
 (witness : ∃ (w : World) (tape : Tape) (i : Input), w.os = os ∧ (w.forCall tape i).Shaped C.prog ∧ i.vars = [] ∧ Input.okWide C.prog (w.forCall tape i) .any w.heap.size f i ∧
   ((s.pre enc C.prog fn conds apart (w.forCall tape i).memory i.args ∧ X (w.forCall tape i).memory i.args) ∧ sizedMet enc C.prog fn (OpenSpec.ofChange s) apart (w.forCall tape i).memory i.args) ∧ a.holds C.prog (lone (Frame.enter C.prog f i.args .normal) [] (w.forCall tape i)))
 (contract : ∀ (W : World) (base : Nat) (args : Array Value) (ds gs : List (DataW H)) (before : List MemPlace), W.ShapedOpen C.prog →
   (∀ (j : Nat) t v, fn.params[j]? = some t → args[j]? = some v → Value.okWide C.prog W .any base t v) →
   DataW.Whole enc C.prog fn.params.toList s.vars apart W args.toList ds gs before → (DataW.weightsEach C.prog (fn.params.toList ++ s.plain.varTypes C.prog) (ds ++ gs)).all (· ≤ reachBytes) = true → X W args →
   Calls C.prog f args W fun e W' => ∃ v, e = .returned v ∧ s.post enc C.prog fn apart fresh handsOn again W args v W') :
 ReturnsInHanded a C os f .any (fun w args => (s.pre enc C.prog fn conds apart w args ∧ X w args) ∧ sizedMet enc C.prog fn (OpenSpec.ofChange s) apart w args) (s.post enc C.prog fn apart fresh handsOn again) := by
 refine returnsInHanded_of_calls own started noInit witness ?_; intro w tape i _ hsh _ hok hpre _; obtain ⟨_, _, _, fn', hfn', _, _, _, _, hval⟩ := hok; obtain rfl : fn' = fn := Option.some.inj (hfn'.symm.trans hfn); obtain ⟨⟨⟨ds, gs, before, hw, _⟩, hx⟩, hz⟩ := hpre; have hw' := DataW.Whole.of_heap (w' := w.forCall tape i) (by rfl) hw; refine (contract (w.forCall tape i) w.heap.size i.args ds gs before hsh hval hw' (hz.weights hw) (hX _ _ _ (by rfl) hx)).mono fun e W' ⟨v, he, hp⟩ => ?_
 subst he; exact ChangeSpec.post_blind hp
end
theorem size_of_shaped {w : World} (h : w.ShapedOpen Tryz.prog) : Tryz.prog.globals.size ≤ w.heap.size := by
 have e : ((((begin Tryz.prog (fun _ _ => 0) default).world).heap[Tryz.prog.globals.size - 1]?).bind Obj.row?).isSome = true := by kernel_rfl
 obtain ⟨⟨z, t⟩, hz⟩ := Option.isSome_iff_exists.1 e; obtain ⟨cs, hb, _⟩ := h.1 _ z t (by decide) hz; have := (Array.getElem?_eq_some_iff.1 hb).1; omega
end
section
open Go Go.RowKit
set_option maxHeartbeats 1600000
theorem encode_refused {m : Msg} (hv : (valid m).1 ≠ 0) : encode m = ([], (valid m).1) := by
 unfold encode; rw [if_pos (by simpa using hv)]
theorem OwnF.at {w : World} {base g : Nat} {l : List Fld} (h : ∀ j u, (fldCells l)[j]? = some u → w.cell? ⟨g, j, none⟩ = some u) : FieldsAt w g l := fun k hk => ⟨h _ _ (fldCells_at l k hk).1, h _ _ (fldCells_at l k hk).2⟩
end
end Go.Proofs.YtdmjinlgdkgoiaaGreatDoor
