/- Of the layer fix: Encodes, RowEncodes. -/
import Derived.Test.YtdmjinlgdkgoiaaGreatDoorFeAc
import Derived.Test.YtdmjinlgdkgoiaaGreatDoorFeAv
import Derived.Test.YtdmjinlgdkgoiaaGreatDoorFeBf
set_option linter.unusedVariables false
set_option linter.unusedSimpArgs false
set_option maxRecDepth 100000
namespace Go.Proofs.YtdmjinlgdkgoiaaGreatDoor
section
open Go Go.RowKit
set_option maxHeartbeats 1600000
attribute [local go_sem ↓] loadVarMsg
attribute [local go_sem] ba_get loadRowMsg rowOf_new rowOf_old rowOf_drew
theorem frozen_mine {w : World} {g k : Nat} {cur : Array Value} {t : TypeId} {fz : Nat × Nat} (hb : w.heap[g]? = some (.cells cur t fz)) (hf : fz.2 = 0 ∨ cur.size ≤ fz.1) (hk : k < cur.size) : w.frozen? ⟨g, k, none⟩ = false := by
 obtain ⟨lo, hi⟩ := fz; simp only at hf; simp only [World.frozen?, hb]; rw [Bool.eq_false_iff]; simp only [ne_eq, Bool.and_eq_true, decide_eq_true_eq]; omega
theorem Own.byte {w : World} {base g n c : Nat} {s : List UInt8} (h : Own w base 5 (.slice (some ⟨g, 0, none⟩) n c) s) {i : Nat} (hi : i < s.length) (x : UInt8) :
 w.frozen? ⟨g, i, none⟩ = false ∧ (∃ u, w.cell? ⟨g, i, none⟩ = some u) ∧ Own (w.setCell ⟨g, i, none⟩ (.int .u8 (x.toNat : Int))) base 5 (.slice (some ⟨g, 0, none⟩) n c) (s.set i x) := by
 have hc := h.cells rfl i hi; obtain ⟨g', cap, cur, fz, hv, hbg, hg, hfz, hnc, hcm, hcs, htake⟩ := h.is; simp only [Value.slice.injEq, Option.some.injEq, Addr.mk.injEq, and_true] at hv; obtain ⟨rfl, rfl, rfl⟩ := hv; refine ⟨frozen_mine hg hfz (by omega), ⟨_, hc⟩, ⟨g, c, cur.setIfInBounds i (.int .u8 (x.toNat : Int)), fz, by rw [List.length_set], hbg, ?_, by simpa using hfz, by simpa using hnc, hcm, by simpa using hcs, ?_⟩⟩
 · rw [setCell_eq_setRow w g i cur 5 fz _ hg]; exact setRow_heap w g cur _ 5 _ hg
 · rw [Array.toList_setIfInBounds, List.length_set, List.take_set, htake]; simp [cellsOf, List.map_set]
theorem Own.other {w w' : World} {base g n c : Nat} {s : List UInt8} {h : Nat} (ho : Own w base 5 (.slice (some ⟨g, 0, none⟩) n c) s) (hk : ∀ k, k < w.heap.size → k ≠ h → w'.heap[k]? = w.heap[k]?) (hne : g ≠ h) : Own w' base 5 (.slice (some ⟨g, 0, none⟩) n c) s :=
 ho.kept fun k _ hl he => hk k hl (by
  have e : g = k := by simpa [Value.ownBlock] using he
  omega)
theorem fixEncodes_calls (m : Msg) (hm : WT m) (w : World) (hE : Env w) : Calls Tryz.prog 3 #[.agg (msgV m)] w fun e w' => e = .returned (.bool true) ∧ Ext w w' := by
 have HE := Lib.hid hE; have HX0 : RowKit.Hid (Ext w (w.alloc (.cells (msgV m) 23))) := Lib.hid ((Ext.refl w).alloc _); have HM0 := Lib.hid (heap_alloc_new w (.cells (msgV m) 23)); have HENC := Lib.hid (fun w1 (h : Ext w w1) => encode_calls m hm w1 (HE.out.ext h)); have HREF := Lib.hid (fun w1 => rEncode_calls m hm w1); have hs := msgV_size hm; by_cases h0 : (valid m).1 = 0
 · obtain ⟨he1, he2, he3⟩ := encode_good hm h0; rw [he1] at HENC HREF; obtain ⟨fr, hfr⟩ : ∃ q, frameOf (fieldsOf m) = q := ⟨_, rfl⟩
   rw [hfr] at HENC HREF he3; obtain ⟨L, hL⟩ : ∃ n, fr.length = n := ⟨_, rfl⟩
   have HL := Lib.hid hL; have HLE : RowKit.Hid (L ≤ 1024) := Lib.hid (by omega); clear h0 he1 he2 he3 hfr hm hE hL; go_enter Tryz.func3, Tryz.ntmps3
   go_wp2_with fail; refine (shown_calls _ (HE.out.ext HX0.out)).mono ?_; rintro e w1 ⟨rfl, hE1⟩; have HX1 := Lib.hid (HX0.out.trans hE1); have HM1 := Lib.hid (hE1.heap HM0.out); have hrow := rowOf_blk HM1.out; clear hE1; go_wp2_with fail; refine (HENC.out _ HX1.out).mono ?_; rintro e w2 ⟨⟨v, rfl, hown⟩, hE2⟩; have hown : Own w2 _ 5 v fr := hown; obtain ⟨g1, c1, rfl, hg1, hg1'⟩ := hown.form; have HO1 := Lib.hid hown; have HE12 := Lib.hid hE2; have HM2 := Lib.hid (hE2.heap HM1.out); have HG1 := Lib.hid (And.intro hg1 hg1'); clear hrow hown hE2 hg1 hg1'; have hrow := rowOf_blk HM2.out; go_wp2_with fail; refine (HENC.out _ (HX1.out.trans HE12.out)).mono ?_; rintro e w3 ⟨⟨v, rfl, hown⟩, hE3⟩; have hown : Own w3 _ 5 v fr := hown; obtain ⟨g2, c2, rfl, hg2, hg2'⟩ := hown.form; have HO2 := Lib.hid hown; have HE13 := Lib.hid (HE12.out.trans hE3); have HO13 := Lib.hid (HO1.out.ext hE3); have HM3 := Lib.hid (hE3.heap HM2.out); have HG2 := Lib.hid (And.intro hg2 hg2'); clear hrow hown hE3 hg2 hg2'; have hrow := rowOf_blk HM3.out; go_wp2_with fail; refine (HREF.out _).mono ?_; rintro e w4 ⟨⟨v, rfl, hown⟩, hE4⟩; have hown : Own w4 _ 5 v fr := hown; obtain ⟨g3, c3, rfl, hg3, hg3'⟩ := hown.form; have hc1 := conv_reads w4 (some ⟨g1, 0, none⟩) fr c1 (Reads.of_own (HO13.out.ext hE4)); have hc2 := conv_reads w4 (some ⟨g2, 0, none⟩) fr c2 (Reads.of_own (HO2.out.ext hE4)); have hc3 := conv_reads w4 (some ⟨g3, 0, none⟩) fr c3 (Reads.of_own hown); have HO14 := Lib.hid (HO13.out.ext hE4)
   have HO24 := Lib.hid (HO2.out.ext hE4); have HO34 := Lib.hid hown; have HE14 := Lib.hid (HE13.out.trans hE4); have HG3 := Lib.hid (And.intro hg3 hg3'); have HG12 : RowKit.Hid (g1 ≠ g2 ∧ g1 ≠ g3) := Lib.hid (by
    have a := HG1.out.2; have b := HG2.out.1; have c := hE4.size; have d := HG2.out.2; have f := hg3; have s3 : w2.heap.size ≤ w3.heap.size := by have := HG2.out; omega
    omega)
   rw [HL.out] at hc1 hc2 hc3 HO14 HO24 HO34 ⊢; clear hrow hown hE4 hg3 hg3'; go_wp2_with fail; clear hc1 hc2 hc3; go_loopw [11] (fun i wr => ∃ (k : Nat) (s : List UInt8), k ≤ L ∧ i = .int .i64 k ∧ s.length = L ∧ Own wr w1.heap.size 5 (.slice (some ⟨g1, 0, none⟩) L c1) s ∧ Own wr w2.heap.size 5 (.slice (some ⟨g2, 0, none⟩) L c2) fr ∧ Own wr w3.heap.size 5 (.slice (some ⟨g3, 0, none⟩) L c3) fr ∧ Ext w1 wr) (fun i _ => L - (intOf i).toNat)
   case atStart => exact ⟨0, fr, by omega, rfl, HL.out, HO14.out, HO24.out, HO34.out, HE14.out⟩
   case round =>
    obtain ⟨k, s, hk, rfl, hsl, ho1, ho2, ho3, hX⟩ := hrel; have HSL := Lib.hid hsl; have HP1 := Lib.hid ho1; have HP2 := Lib.hid ho2; have HP3 := Lib.hid ho3; have HX := Lib.hid hX; have hLb := HLE.out; by_cases hlt : k < L
    · obtain ⟨z0, ⟨u, hu⟩, hset⟩ := ho1.byte (i := k) (by omega) 77; have HSET := Lib.hid hset; clear hsl ho1 ho2 ho3 hX hset; go_wp2; go_roundw
      case rel =>
       have hkp : ∀ j, j < wr.heap.size → j ≠ g1 → (wr.setCell ⟨g1, k, none⟩ (.int .u8 77)).heap[j]? = wr.heap[j]? := fun j _ hj => Below.heap_setCell _ _ _ _ hj
       exact ⟨k + 1, s.set k 77, by omega, by go_num, by rw [List.length_set]; exact HSL.out, HSET.out, HP2.out.other hkp (fun e => HG12.out.1 e.symm), HP3.out.other hkp (fun e => HG12.out.2 e.symm), HX.out.setCell HG1.out.1 _⟩
      case measure => simp [intOf]; omega
    · obtain rfl : k = L := by omega
      obtain ⟨i0, hi0, hz0, hz1, hz2⟩ := info_parts infoU8; have HI := Lib.hid (And.intro hi0 (And.intro hz0 (And.intro hz1 hz2))); have hcells : ∀ j u, (cellsOf [77, 77, 77])[j]? = some u → (wr.alloc (.cells #[.int .u8 77, .int .u8 77, .int .u8 77] 5)).cell? ((⟨wr.heap.size, 0, none⟩ : Addr).add j) = some u :=
       World.news_of_block (cs := #[.int .u8 77, .int .u8 77, .int .u8 77]) (t := 5) (fr := (0, 0)) (heap_alloc_new _ _)
      have HC := Lib.hid hcells; have hA : Ext wr (wr.alloc (.cells #[.int .u8 77, .int .u8 77, .int .u8 77] 5)) := (Ext.refl _).alloc _; have HQ1 := Lib.hid (ho1.ext hA); have HQ2 := Lib.hid (ho2.ext hA); have HQ3 := Lib.hid (ho3.ext hA); have HXA := Lib.hid (hX.trans hA); have HSB : RowKit.Hid (s.length + ([77, 77, 77] : List UInt8).length ≤ 140737488355328) := Lib.hid (by have := HLE.out; simp; omega); clear hi0 hz0 hz1 hz2 hcells hsl ho1 ho2 ho3 hX hA
      go_wp2_with (first | (at_builtin; (refine wpList_own_slice _ _ 25 5 i0 rfl (.tmp 57) (.tmp 58) rfl Tryz.underlying25 HI.out.1 HI.out.2.1 HI.out.2.2.1 HI.out.2.2.2 rfl _ s rfl HQ1.out ⟨wr.heap.size, 0, none⟩ 3 [77, 77, 77] rfl HC.out HSB.out HXA.out.size ?_; intro v5 w5 ho5 hg5; obtain ⟨g5, c5, rfl, hb5, hb5'⟩ := ho5.form; have HG5 := Lib.hid hg5; have HX5 := Lib.hid (Ext.grown' HXA.out hg5 HXA.out.size (fun k hk => HQ1.out.block hk)); have hkp := (fun j (hj : j < (wr.alloc (.cells #[.int .u8 77, .int .u8 77, .int .u8 77] 5)).heap.size) (hne : j ≠ g1) => hg5.block j hj (fun e => hne (Option.some.inj (show some j = some g1 from e)))); have HR2 := Lib.hid (HQ2.out.other hkp (fun e => HG12.out.1 e.symm)); have HR3 := Lib.hid (HQ3.out.other hkp (fun e => HG12.out.2 e.symm)); have hlen5 : (s ++ [77, 77, 77]).length = k + 3 := (by rw [List.length_append, HSL.out]; rfl); rw [hlen5]; have hrow := rowOf_blk (HX5.out.heap HM1.out); have hd2 := conv_reads w5 (some ⟨g2, 0, none⟩) fr c2 (by have := HR2.out; rw [← HL.out] at this; exact Reads.of_own this); have hd3 := conv_reads w5 (some ⟨g3, 0, none⟩) fr c3 (by have := HR3.out; rw [← HL.out] at this; exact Reads.of_own this); rw [HL.out] at hd2 hd3; clear ho5 hg5 hb5 hb5' hkp hlen5))); refine (HENC.out _ (HX1.out.trans HX5.out)).mono ?_; rintro e w6 ⟨⟨v, rfl, hown⟩, hE6⟩; have hown : Own w6 _ 5 v fr := hown; obtain ⟨g4, c4, rfl, hg4, hg4'⟩ := hown.form; have hf4 := conv_reads w6 (some ⟨g4, 0, none⟩) fr c4 (Reads.of_own hown)
      have hf3 := conv_reads w6 (some ⟨g3, 0, none⟩) fr c3 (by have := HR3.out.ext hE6; rw [← HL.out] at this; exact Reads.of_own this); rw [HL.out] at hf4 hf3 ⊢; have HX6 := Lib.hid ((HX1.out.trans HX5.out).trans hE6); clear hd2 hd3 hrow hown hE6 hg4 hg4'; go_wp2; go_ret; exact ⟨rfl, HX6.out⟩
 · have he1 := encode_refused h0; rw [he1] at HENC HREF; obtain ⟨v1, hv1⟩ : ∃ x, (valid m).1 = x := ⟨_, rfl⟩
   rw [hv1] at HENC HREF h0; have H0 := Lib.hid h0; clear he1 hv1 hm hE h0; go_enter Tryz.func3, Tryz.ntmps3
   go_wp2_with fail; refine (shown_calls _ (HE.out.ext HX0.out)).mono ?_; rintro e w1 ⟨rfl, hE1⟩; have HX1 := Lib.hid (HX0.out.trans hE1); have HM1 := Lib.hid (hE1.heap HM0.out); have hrow := rowOf_blk HM1.out; clear hE1; go_wp2_with fail; refine (HENC.out _ HX1.out).mono ?_; rintro e w2 ⟨⟨v, rfl, hown⟩, hE2⟩; dsimp only at hown ⊢; rw [if_neg H0.out] at hown; subst hown; have HX2 := Lib.hid (HX1.out.trans hE2); have HM2 := Lib.hid (hE2.heap HM1.out); clear hrow hE2; have hrow := rowOf_blk HM2.out; go_wp2_with fail; refine (HENC.out _ HX2.out).mono ?_; rintro e w3 ⟨⟨v, rfl, hown⟩, hE3⟩; dsimp only at hown ⊢; rw [if_neg H0.out] at hown; subst hown; have HX3 := Lib.hid (HX2.out.trans hE3); have HM3 := Lib.hid (hE3.heap HM2.out); clear hrow hE3; have hrow := rowOf_blk HM3.out; go_wp2_with fail; refine (HREF.out _).mono ?_; rintro e w4 ⟨⟨v, rfl, hown⟩, hE4⟩; dsimp only at hown ⊢; rw [if_neg H0.out] at hown; subst hown; have HX4 := Lib.hid (HX3.out.trans hE4); have HM4 := Lib.hid (hE4.heap HM3.out); have hnil : ∀ w : World, (convert 25 9 (.slice none 0 0)).run Tryz.prog w = .ok (.string ⟨([] : List UInt8).toArray⟩) w := fun w => conv_reads w none [] 0 (Reads.none_ w)
   obtain ⟨i0, hi0, hz0, hz1, hz2⟩ := info_parts infoU8; have HI := Lib.hid (And.intro hi0 (And.intro hz0 (And.intro hz1 hz2))); have hcells : ∀ j u, ([.int .u8 77, .int .u8 77, .int .u8 77] : List Value)[j]? = some u → (w4.alloc (.cells #[.int .u8 77, .int .u8 77, .int .u8 77] 5)).cell? ((⟨w4.heap.size, 0, none⟩ : Addr).add j) = some u :=
    World.news_of_block (cs := #[.int .u8 77, .int .u8 77, .int .u8 77]) (t := 5) (fr := (0, 0)) (heap_alloc_new _ _)
   have HC := Lib.hid hcells; have HNIL := Lib.hid (OwnS.nil (w4.alloc (.cells #[.int .u8 77, .int .u8 77, .int .u8 77] 5)) w4.heap.size); have HSZ : RowKit.Hid (w4.heap.size ≤ (w4.alloc (.cells #[.int .u8 77, .int .u8 77, .int .u8 77] 5)).heap.size) := Lib.hid (by simp); have HXA := Lib.hid ((Ext.refl w4).alloc (.cells #[.int .u8 77, .int .u8 77, .int .u8 77] 5)); clear hrow hE4 hi0 hz0 hz1 hz2 hcells; go_wp2_with fail; go_loop [11] (fun i => i = .int .i64 0) (fun _ => 0)
   case atStart => rfl
   case round =>
    subst hrel; go_wp2_with (first | (at_builtin; (refine wpList_append_lies _ rfl (.tmp 57) (.tmp 58) 25 rfl w4.heap.size 5 i0 _ 1 1 Tryz.underlying25 HI.out.1 HI.out.2.1 HI.out.2.2.1 HI.out.2.2.2 rfl (by decide) _ _ _ rfl HNIL.out ⟨w4.heap.size, 0, none⟩ 3 3 [.int .u8 77, .int .u8 77, .int .u8 77] rfl rfl HC.out (by intro u hu; simp at hu; subst hu; rfl) (by decide) (by simp only [maxLen]; simp) (by simp) HSZ.out _ rfl ?_; intro g9 c9 w9 hown9 hg9 hat9 hlt9; have HX9 := Lib.hid (Ext.grown' HXA.out hg9 HXA.out.size (fun k hk => by cases hk)); have hrow := rowOf_blk (HX9.out.heap HM4.out); clear hown9 hg9 hat9 hlt9))); refine (HENC.out _ (HX4.out.trans HX9.out)).mono ?_; rintro e w6 ⟨⟨v, rfl, hown⟩, hE6⟩; dsimp only at hown ⊢; rw [if_neg H0.out] at hown; subst hown; have HX6 := Lib.hid ((HX4.out.trans HX9.out).trans hE6); clear hrow hE6; go_wp2; go_ret; exact ⟨rfl, HX6.out⟩
end
section
open Go Go.ChangeShapes Go.WideShapes Go.ChangeAt Go.RowKit
theorem fixEncodes_met (os : Os) (args : Array Value) : laidMetH Tryz.prog Rows.fixEncodesRow.laid ((World.laidAll Tryz.prog os Rows.fixTakesRow.laid).forCall (fun _ _ => 0) ⟨#[], args, []⟩).memory := by
 show laidMetH Tryz.prog Rows.fixTakesRow.laid _
 rw [MakeChecks.laidMetH_plain _ _ _ (by kernel_rfl)]; exact takes_met os args
theorem fixEncodes_lifted (os : Os) (started : os.Started) (H : Type) (enc : TypeId × Value → H) :
 ReturnsInHanded {} Tryz.checked os 3 .any (fun w args => (Rows.fixEncodesSpec.pre enc Tryz.prog Tryz.f3 [] false w args ∧ laidMetH Tryz.prog Rows.fixEncodesRow.laid w) ∧ sizedMet enc Tryz.prog Tryz.f3 (OpenSpec.ofChange Rows.fixEncodesSpec) false w args)
  (Rows.fixEncodesSpec.post enc Tryz.prog Tryz.f3 false true false false) := by
 refine returns_shaped (C := Tryz.checked) (X := fun w _ => laidMetH Tryz.prog Rows.fixEncodesRow.laid w) (fun _ _ _ hh h => h.of_heap hh) ownKnobs started (by kernel_rfl) Tryz.func3
  (ChangeSpec.witness_shaped (enc := enc) (C := Tryz.checked) (os := os) (X := fun w _ => laidMetH Tryz.prog Rows.fixEncodesRow.laid w) false (World.laidAll Tryz.prog os Rows.fixTakesRow.laid) #[.agg (msgV noMsg)] 8 (World.laidAll_os _ _ _) (takes_shape os _) (by kernel_rfl) (by kernel_rfl) (by kernel_rfl) (fixEncodes_met os _)) ?_
 intro W base args ds gs before hshape hval0 hW hwt hL; have hval : ∀ (j : Nat) t v, Tryz.f3.params[j]? = some t → args[j]? = some v → Value.okWide Tryz.prog W .any base t v := hval0; have hW' := hW; obtain ⟨p, q, hA0, hV, rfl, hfz, hnd⟩ := hW; have hA : DataW.TrodAll enc Tryz.prog W 0 (fun _ => true) true [23] args.toList ds p := hA0; obtain ⟨v0, d0, rfl, rfl, h0⟩ := trodAll_one hA; obtain ⟨rfl, rfl⟩ := trodVars_none hV; have hE : Env W := env_of_laid (l := Rows.fixTakesRow.laid) (by
  have hL : laidMetH Tryz.prog Rows.fixTakesRow.laid W := hL; rw [MakeChecks.laidMetH_plain _ _ _ (by kernel_rfl)] at hL; exact hL) hshape (size_of_shaped hshape) (by simp [Rows.fixTakesRow]) (by simp [Rows.fixTakesRow])
 simp only [List.append_nil] at hW'; have hlt : ∀ x ∈ p, x.block < W.heap.size := fun x hx => by simpa using hW'.lt x hx
 have fin : ∀ W' : World, Ext W W' → Rows.fixEncodesSpec.post enc Tryz.prog Tryz.f3 false true false false W #[v0] (.bool true) W' := fun W' hX =>
  ⟨_, _, _, [], _, [], hW', trodAll_mk1 (shut_bool Tryz.underlying4 true), trodAll_mk1 (Below.trod laidOutAll (by kernel_rfl) (of_decide_eq_true (by kernel_rfl)) h0 hX (fun x hx => hlt x (by exact hx))), rfl, Below.frame hX _, fun h => by cases h⟩
 obtain ⟨m, hm, e0⟩ := open_msg (hval 0 23 v0 rfl rfl) h0 (fun n hn => by
  have h9 := List.all_eq_true.1 hwt n (DataW.weights_mem_each (j := 0) (t := 23) (d := d0) rfl rfl n hn); have h8 : n ≤ reachBytes := by simpa using h9
  have h7 : reachBytes = 140737488351232 := rfl; omega)
 subst e0; refine (fixEncodes_calls m hm W hE).mono fun e W' ⟨he, hX⟩ => ?_
 subst he; exact ⟨_, rfl, fin W' hX⟩
end
end Go.Proofs.YtdmjinlgdkgoiaaGreatDoor
