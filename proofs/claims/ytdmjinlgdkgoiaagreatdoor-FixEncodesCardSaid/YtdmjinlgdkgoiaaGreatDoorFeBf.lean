/- Of the layer fix: RefEncode. -/
import Derived.Test.YtdmjinlgdkgoiaaGreatDoorFeBd
import Derived.Test.YtdmjinlgdkgoiaaGreatDoorFeBe
set_option linter.unusedVariables false
set_option linter.unusedSimpArgs false
set_option maxRecDepth 100000
namespace Go.Proofs.YtdmjinlgdkgoiaaGreatDoor
section
open Go Go.RowKit
set_option maxHeartbeats 1600000
attribute [local go_sem ↓] loadVarMsg
attribute [local go_sem] ba_get loadRowMsg rowOf_new rowOf_old rowOf_drew
theorem rEncode_calls (m : Msg) (hm : WT m) (w : World) : Calls Tryz.prog 16 #[.agg (msgV m)] w fun e w' => Joined w e w' (encode m) ∧ Ext w w' := by
 have hs := msgV_size hm; have HM := Lib.hid (show MsgAt (w.alloc (.cells (msgV m) 23)) w.heap.size m from ⟨hm, heap_alloc_new _ _⟩); have HX := Lib.hid ((Ext.refl w).alloc (.cells (msgV m) 23)); have hrow : rowOf (w.alloc (.cells (msgV m) 23)) w.heap.size = msgV m := rowOf_new _ _ _ _; have HV := Lib.hid (fun w => rValid_calls m hm w); have HRW := Lib.hid (fun (W : World) (h : MsgAt W w.heap.size m) => rowOf_blk h.blk); obtain ⟨R, hR⟩ : ∃ R, encode m = R := ⟨_, rfl⟩
 rw [hR]; have HR := Lib.hid hR; obtain ⟨⟨v1, v2⟩, hv⟩ : ∃ v, valid m = v := ⟨_, rfl⟩
 rw [hv] at HV; by_cases h0 : v1 = 0
 · subst h0; have hgood : Good m := good_of hm (by rw [hv]); have hRj : R = join (fields3 m) := by
    rw [← hR, fields3_eq hgood]; unfold encode; rw [hv]; rfl
   have hff := fieldsOf_fields hgood; have HNE : RowKit.Hid (fields3 m ≠ []) := Lib.hid (by
    rw [fields3_eq hgood]; obtain ⟨r, hr⟩ := hff.1.head; rw [hr]; simp)
   have HOK : RowKit.Hid (∀ f ∈ fields3 m, FldOk f) := Lib.hid (by
    rw [fields3_eq hgood]; intro f hf; obtain ⟨s, hs2, rfl, hne⟩ := mem_fieldsOf.1 hf; obtain ⟨t1, t2, _⟩ := tag_good (slot_tag_good hgood hs2); have := ((slot_says hgood hs2).1 hne).len; have := most_bound s; exact ⟨⟨by show -9223372036854775808 ≤ s.tag; omega, by show s.tag ≤ 9223372036854775807; omega⟩, by show (written s m).length ≤ 1099511627776; omega⟩)
   have HLEN : RowKit.Hid ((fields3 m).length ≤ 200) := Lib.hid (by
    unfold fields3; rw [List.length_append]; have := soFar3_len m 42; split <;> simp only [List.length_cons, List.length_nil] <;> omega)
   have HFLD := Lib.hid (fun w => rFields_calls m hgood w); have HRJ := Lib.hid hRj; clear hgood hRj hff hR hv; generalize fields3 m = fl at *; go_enter Tryz.func16, Tryz.ntmps16
   go_wp2_with fail; refine (HV.out _).mono ?_; rintro e w1 ⟨rfl, hE1⟩; have HM1 := Lib.hid (HM.out.ext hE1); have HX1 := Lib.hid (HX.out.trans hE1); have hr1 := HRW.out _ HM1.out; clear hrow hE1; go_wp2_with fail; refine (HFLD.out _).mono ?_; rintro e w2 ⟨⟨v, rfl, hown⟩, hE2⟩; have HX2 := Lib.hid (HX1.out.trans hE2); obtain ⟨A2, cap2, rfl, hA2⟩ := hown.reads; obtain ⟨b2, rfl, hat2⟩ := hA2 HNE.out; have HJ := Lib.hid (rJoin_calls fl b2 cap2 w2 HOK.out (by have := HLEN.out; omega) hat2); rw [← HRJ.out] at HJ; clear hr1 hE2 hown hA2 hat2; generalize fl.length = fn at *; go_wp2_with fail; refine HJ.out.mono ?_; rintro e w6 ⟨⟨jv, rfl, hjv⟩, hE6⟩; have HJV := Lib.hid hjv; have HX6 := Lib.hid (HX2.out.trans hE6); have HSZ := Lib.hid HX2.out.size; clear hjv hE6; go_wp2; go_ret2; refine ⟨⟨jv, rfl, ?_⟩, HX6.out⟩; have := HJV.out; split
   · rename_i h2
     rw [if_pos h2] at this; exact this.more HSZ.out
   · rename_i h2
     rw [if_neg h2] at this; exact this
 · have hRe : R = ([], v1) := by
    rw [← hR, encode_bad (by rw [hv]; exact h0), hv]
   clear hR HR; subst hRe; have hne : (v1 != 0) = true := by simpa using h0
   have H0 := Lib.hid h0; clear h0; go_enter Tryz.func16, Tryz.ntmps16
   go_wp2_with fail; refine (HV.out _).mono ?_; rintro e w1 ⟨rfl, hE1⟩; go_wp2; go_ret2; exact ⟨⟨_, rfl, by have := H0.out; simp [this]⟩, HX.out.trans hE1⟩
end
end Go.Proofs.YtdmjinlgdkgoiaaGreatDoor
