/- Of the layer fix: RefFields. -/
import Derived.Test.YtdmjinlgdkgoiaaGreatDoorFeAs
import Derived.Test.YtdmjinlgdkgoiaaGreatDoorFeAz
import Derived.Test.YtdmjinlgdkgoiaaGreatDoorFeBc
set_option linter.unusedVariables false
set_option linter.unusedSimpArgs false
set_option maxRecDepth 100000
namespace Go.Proofs.YtdmjinlgdkgoiaaGreatDoor
section
open Go Go.RowKit
set_option maxHeartbeats 1600000
attribute [local go_sem ↓] loadVarMsg
attribute [local go_sem] ba_get loadRowMsg rowOf_new rowOf_old rowOf_drew
theorem number530_calls (kind : Int) (w : World) : Calls Tryz.prog 87 #[.int .i64 kind, .int .i64 530] w fun e w' => e = .returned (.int .i64 (if hasScope kind then 530 else 0)) ∧ w = w' := by
 have hc : hasScope kind = true ∧ (kind == 11) = true ∨ hasScope kind = true ∧ (kind == 11) = false ∧ (kind == 15) = true ∨ hasScope kind = false ∧ (kind == 11) = false ∧ (kind == 15) = false := by
  unfold hasScope; cases (kind == 11) <;> cases (kind == 15) <;> simp
 rcases hc with ⟨e, a⟩ | ⟨e, a, b⟩ | ⟨e, a, b⟩
 all_goals
  rw [e]; simp only [if_true, if_false, Bool.false_eq_true]; clear e; go_enter Tryz.func87, Tryz.ntmps87
  go_wp2; go_ret; exact ⟨rfl, rfl⟩
theorem scope_calls (m : Msg) (hm : WT m) (w : World) : Calls Tryz.prog 88 #[.agg (msgV m)] w fun e w' => e = .returned (.string ⟨(scopeOf m).toArray⟩) ∧ Ext w w' := by
 have hs := msgV_size hm; have hx := cellS hm (k := 22) rfl; have hX := Lib.hid ((Ext.refl w).alloc (.cells (msgV m) 23)); unfold scopeOf; obtain ⟨s, hg⟩ : ∃ s, gs m 22 = s := ⟨_, rfl⟩
 have hcell : (w.alloc (.cells (msgV m) 23)).cell? ⟨w.heap.size, 22, none⟩ = some (.string ⟨s.toArray⟩) := by rw [cell_of_row _ _ _ _ _ (0, 0) (heap_alloc_new _ _), hx, hg]
 rw [hg]; clear hg hx; rcases he : s.isEmpty with _ | _
 · have hn : (!s.isEmpty) = true := by rw [he]; rfl
   rw [if_neg (by simp)]; go_enter Tryz.func88, Tryz.ntmps88
   go_wp2; go_ret; exact ⟨rfl, hX.out⟩
 · have : s = [] := by simpa using he
   subst this; rw [if_pos rfl]; go_enter Tryz.func88, Tryz.ntmps88
   go_wp2; go_ret; exact ⟨rfl, hX.out⟩
theorem fieldsAt3_len (m : Msg) (k : Nat) : (fieldsAt3 m k).length ≤ 3 := by
 unfold fieldsAt3; rw [List.length_append]; split <;> split <;> (try split) <;> simp
theorem soFar3_len (m : Msg) (k : Nat) : ((List.range k).flatMap (fieldsAt3 m)).length ≤ 3 * k := by
 induction k with
 | zero => simp
 | succ k ih =>
  have := fieldsAt3_len m k; rw [List.range_succ, List.flatMap_append, List.length_append]; simp only [List.flatMap_cons, List.flatMap_nil, List.append_nil]; omega
theorem rows_low : rows.all (fun r => decide (0 ≤ r.lo)) = true := by decide +kernel
theorem row_writable {m : Msg} (hg : Good m) {k : Nat} {r : Row} (hr : rows3[k]? = some r) (hx : there m k = true ∨ inSet r.must (gi m 0) = true) : writable r.num (valN m k) = true ∧ 0 ≤ valN m k := by
 cases k with
 | zero =>
  obtain rfl : (⟨35, .num, 1, 17, false, allK, 0⟩ : Row) = r := Option.some.inj hr; rw [valN_int hg.wt rfl]; have hk := hg.kind; unfold isKind at hk; simp only [Bool.and_eq_true, decide_eq_true_eq] at hk; refine ⟨?_, by omega⟩; show (decide ((1 : Int) ≤ gi m 0) && decide (gi m 0 < 1 + 17)) = true
  simp only [Bool.and_eq_true, decide_eq_true_eq]; omega
 | succ j =>
  have hr' : rows[j]? = some r := hr; obtain ⟨f, hf, hag⟩ := form_agrees hr'; have hl := form_like hr' hf; obtain ⟨hfine, hne⟩ := hg.fine hr' hx; have hty := row_ty hr'; have hfty : f.ty = r.what.ty := by
   have h1 : (forms.map Form.ty)[j + 1]? = some f.ty := by rw [List.getElem?_map, hf]; rfl
   rw [forms_tys3, hty] at h1; exact (Option.some.inj h1).symm
  have hlow := List.all_eq_true.1 rows_low r (List.mem_of_getElem? hr'); simp only [decide_eq_true_eq] at hlow; have hpos : 0 ≤ valN m (j + 1) := by
   unfold fine at hfine; cases hw : r.what <;> rw [hw] at hty hfine <;> simp only at hfine
   · rw [valN_int hg.wt hty]; simp only [Bool.and_eq_true, decide_eq_true_eq] at hfine; omega
   · rw [valN_bool hg.wt hty]; split <;> decide
   · rw [valN_str hg.wt hty]; decide
   · rw [valN_str hg.wt hty]; decide
   · rw [valN_str hg.wt hty]; decide
   · rw [valN_str hg.wt hty]; decide
   · rw [valN_str hg.wt hty]; decide
   · rw [valN_int hg.wt hty]; have := (date_range hfine).1; omega
  refine ⟨?_, hpos⟩; by_cases h59 : r.num = 59
  · have hc := cellOf_row hr'; rw [h59] at hc; have hj : j = 24 := by
     have : cellOf 59 = 25 := by decide
     omega
    subst hj; have hrr : r = ⟨59, .num, 1, 7, false, bits [8], bits [13]⟩ := by
     rw [life_row] at hr'; exact (Option.some.inj hr').symm
    subst hrr; rw [valN_int hg.wt rfl]; unfold fine at hfine; simp only [Bool.and_eq_true, decide_eq_true_eq] at hfine; show (decide ((1 : Int) ≤ gi m 25) && decide (gi m 25 < 1 + 7)) = true
    simp only [Bool.and_eq_true, decide_eq_true_eq]; have h25 : gi m (24 + 1) = gi m 25 := rfl; rw [h25] at hfine; omega
  · refine may_writable hl _ (fun hI => ?_) (fun hI => ?_)
    · rw [hI] at hfty; rw [← hfty] at hty; have hc : ∀ first words, f = .coded first words → gi m (j + 1) < first + words.length := by
       intro first words he; have htop := List.all_eq_true.1 coded_top _ (List.mem_of_getElem? (i := j) (by rw [List.getElem?_zipWith, hr', List.getElem?_drop, Nat.add_comm 1 j, hf])); rw [he] at htop; simp only [id_eq, Bool.or_eq_true, decide_eq_true_eq, beq_iff_eq] at htop; have hhi : gi m (j + 1) ≤ r.hi := by
        unfold fine at hfine; cases hw : r.what <;> rw [hw] at hfine hfty
        case num =>
         simp only [Bool.and_eq_true, decide_eq_true_eq] at hfine; exact hfine.2
        case date =>
         rw [he] at hag; unfold Form.agrees at hag; rw [hw] at hag; cases hag
        all_goals cases hfty
       rcases htop with h | h
       · omega
       · exact absurd h h59
      have hmay := (cell_back hg.wt hr' hf hfine hne hc).2.2.2; rw [List.getD_eq_getElem?_getD, hg.wt.int hty] at hmay; rw [valN_int hg.wt hty]; exact hmay
    · rw [hfty] at hI; cases hw : r.what.ty with
      | I => exact absurd hw hI
      | S =>
       rw [hw] at hty; exact .inl (valN_str hg.wt hty)
      | B =>
       rw [hw] at hty; rw [valN_bool hg.wt hty]; cases gb m (j + 1)
       · exact .inl rfl
       · exact .inr rfl
theorem rFields_calls (m : Msg) (hg : Good m) (w : World) : Calls Tryz.prog 41 #[.agg (msgV m)] w fun e w' => (∃ v, e = .returned v ∧ OwnF w' w.heap.size v (fields3 m)) ∧ Ext w w' := by
 have hm := hg.wt; have hs := msgV_size hm; have HM := Lib.hid (show MsgAt (w.alloc (.cells (msgV m) 23)) w.heap.size m from ⟨hm, heap_alloc_new _ _⟩); have HX := Lib.hid ((Ext.refl w).alloc (.cells (msgV m) 23)); have hrow : rowOf (w.alloc (.cells (msgV m) 23)) w.heap.size = msgV m := rowOf_new _ _ _ _; have HVAL := Lib.hid (fun k hk w => rValue_calls m hm k hk w); have HKC := Lib.hid (fun (W : World) (h : MsgAt W w.heap.size m) => (show W.cell? ⟨w.heap.size, 0, none⟩ = some (.int .i64 (gi m 0)) by rw [h.cell (k := 0) (by decide), cellAt_int hm rfl])); have HRW := Lib.hid (fun (W : World) (h : MsgAt W w.heap.size m) => rowOf_blk h.blk); have HWRT := Lib.hid (fun k r (hr : rows3[k]? = some r) hx => row_writable hg hr hx); have HHAS := Lib.hid (fun k r (hr : rows3[k]? = some r) => has_found hr (gi m 0)); have HWT := Lib.hid hm; have HSC := Lib.hid (fun w => scope_calls m hm w); have hf3 : fields3 m = (List.range 42).flatMap (fieldsAt3 m) ++ if hasScope (gi m 0) then [(530, scopeOf m)] else [] := rfl
 obtain ⟨R, hR⟩ : ∃ R, fields3 m = R := ⟨_, rfl⟩
 rw [hR] at hf3 ⊢; have HR := Lib.hid hf3; clear hg hm hR hf3; go_enter Tryz.func41, Tryz.ntmps41
 go_wp2_with fail; refine (rows3_calls _).mono ?_; rintro e w1 ⟨⟨b, rfl, hrows⟩, hE⟩; have HM1 := Lib.hid (HM.out.ext hE); have HX1 := Lib.hid (HX.out.trans hE); have HROWS := Lib.hid hrows; clear hE hrows hrow; go_wp2_with fail; go_loopw [3, 5] (fun v i wr => ∃ k : Nat, k ≤ 42 ∧ i = .int .i64 k ∧ OwnF wr w1.heap.size v ((List.range k).flatMap (fieldsAt3 m)) ∧ Ext w1 wr) (fun _ i _ => 42 - (intOf i).toNat)
 case atStart => exact ⟨0, by omega, rfl, OwnF.nil _ _, Ext.refl _⟩
 case round =>
  obtain ⟨k, hk, rfl, hown, hE⟩ := hrel; have HOWN := Lib.hid hown; have HEX := Lib.hid hE; clear hown hE; by_cases hlt : k < 42
  · obtain ⟨r, hr⟩ : ∃ r, rows3[k]? = some r := ⟨rows3[k]'(by rw [rows3_len]; exact hlt), List.getElem?_eq_getElem _⟩
    obtain ⟨l, hl⟩ : ∃ l, lists3[k]? = some l := ⟨lists3[k]'(by rw [lists3_len]; exact hlt), List.getElem?_eq_getElem _⟩
    obtain ⟨mu, ma, ⟨p0, _, _, _, _, _, _⟩, _, _⟩ := (HROWS.out.ext HEX.out) k r l hr hl; have hrow1 := HRW.out _ (HM1.out.ext HEX.out); have hsz : (msgV m).size = 42 := hs; have HVK := Lib.hid (HVAL.out k hlt); rw [numbered3 hr] at HVK; obtain ⟨hr1, hr2⟩ := valN_range HWT.out k; have hsl := gs_short HWT.out k; have hlen := soFar3_len m k; have hnext : (List.range (k + 1)).flatMap (fieldsAt3 m) = (List.range k).flatMap (fieldsAt3 m) ++ fieldsAt3 m k := by
     rw [List.range_succ, List.flatMap_append]; simp
    generalize hLN : List.flatMap (fieldsAt3 m) (List.range (k + 1)) = LN at *; have HLN := Lib.hid hLN; clear hLN; generalize List.flatMap (fieldsAt3 m) (List.range k) = L0 at *; unfold fieldsAt3 at hnext; rw [numbered3 hr, HHAS.out k r hr, ← List.append_assoc] at hnext; have HWR := Lib.hid (fun hx => HWRT.out k r hr hx); have HHK := Lib.hid (fun w => rHasF_calls (gi m 0) r.num w); rw [HHAS.out k r hr] at HHK; rw [there_val m k] at HWR; have hkc := HKC.out; clear hr hl; generalize valN m k = n at *; generalize gs m k = s at *; generalize hRN : r.num = num at *; generalize hRM : inSet r.must (gi m 0) = bmu at *; generalize hRA : inSet r.may (gi m 0) = bma at *; generalize hK : gi m 0 = K at *; obtain ⟨h, hh⟩ : ∃ h : Int, (if bmu = true then 2 else if bma = true then 1 else 0) = h := ⟨_, rfl⟩
    rw [hh] at HHK hnext; have HHH := Lib.hid hh; have HKC2 := Lib.hid hkc; clear hRN hRM hRA hh hkc; obtain ⟨L1, hL1⟩ : ∃ L, L0 ++ (if (num == 108 && K == 7) = true then [(98, [48])] else []) = L := ⟨_, rfl⟩
    rw [hL1] at hnext; have HL1 := Lib.hid hL1; have HNEXT := Lib.hid hnext; have HLEN1 : RowKit.Hid (L1.length ≤ 127) := Lib.hid (by rw [← hL1, List.length_append]; split <;> simp <;> omega); have HLEN : RowKit.Hid (L0.length ≤ 126) := Lib.hid (by omega); clear hL1 hnext hlen; have h108 : (num == 108) = false ∨ (num == 108) = true ∧ (K == 7) = false ∨ (num == 108) = true ∧ (K == 7) = true := by
     cases (num == 108) <;> cases (K == 7) <;> simp
    have hZ : (n == 0) = false ∨ (n == 0) = true ∧ s.isEmpty = false ∨ (n == 0) = true ∧ s = [] ∧ (h != 2) = true ∨ (n == 0) = true ∧ s = [] ∧ (h != 2) = false := by
     cases (n == 0) <;> cases s <;> cases (h != 2) <;> simp
    have h59 : (num == 59) = false ∨ (num == 59) = true ∧ (n == 7) = false ∨ (num == 59) = true ∧ (n == 7) = true := by
     cases (num == 59) <;> cases (n == 7) <;> simp
    have HZ := Lib.hid hZ; have H59 := Lib.hid h59; clear hZ h59; have hgl0 := (HM1.out.ext HEX.out).lt; rcases h108 with a1 | ⟨a1, a2⟩ | ⟨a1, a2⟩
    case' inl =>
     go_wp2_with fail; refine (HVK.out _).mono ?_; rintro e wA ⟨rfl, hE2⟩; have HE3 := Lib.hid (HEX.out.trans hE2); have hkA := HKC2.out _ (HM1.out.ext HE3.out); have HO3 : RowKit.Hid (OwnF wA w1.heap.size _ L1) := Lib.hid (by rw [← HL1.out, a1]; simpa using HOWN.out.ext hE2); clear hE2 p0 hrow1
    case' inr.inl =>
     go_wp2_with fail; refine (HVK.out _).mono ?_; rintro e wA ⟨rfl, hE2⟩; have HE3 := Lib.hid (HEX.out.trans hE2); have hkA := HKC2.out _ (HM1.out.ext HE3.out); have HO3 : RowKit.Hid (OwnF wA w1.heap.size _ L1) := Lib.hid (by rw [← HL1.out, a1, a2]; simpa using HOWN.out.ext hE2); clear hE2 p0 hrow1
    case' inr.inr =>
     go_wp2_with fail; refine (HVK.out _).mono ?_; rintro e w2 ⟨rfl, hE2⟩; have HE2 := Lib.hid (HEX.out.trans hE2); have HO2 := Lib.hid (HOWN.out.ext hE2); have hk2 := HKC2.out _ (HM1.out.ext HE2.out); clear hE2 p0 hrow1
    all_goals
     rcases HZ.out with e1 | ⟨e1, e2⟩ | ⟨e1, rfl, e3⟩ | ⟨e1, rfl, e3⟩
     all_goals
      go_wp2_with (first | (at_builtin; refine wpList_fld (W := w1) (.tmp 34) (.tmp 36) rfl rfl _ L0 rfl HO2.out HE2.out 98 [48] rfl (by have := HLEN.out; omega) ?_; intro vA wA hownA hxA; have HO3 : RowKit.Hid (OwnF wA w1.heap.size vA L1) := Lib.hid (by rw [← HL1.out, a1, a2]; simpa using hownA); have HE3 := Lib.hid hxA; have hkA := HKC2.out _ (HM1.out.ext hxA); clear hownA hxA))
      (try (
        refine (HHK.out _).mono ?_; rintro e w5 ⟨rfl, hE5⟩; have HEA := HE3
        replace HE3 := Lib.hid (HE3.out.trans hE5)
        replace HO3 := Lib.hid (HO3.out.ext hE5)
        have hk5 := HKC2.out _ (HM1.out.ext HE3.out); clear hE5 HEA; go_wp2_with fail))
      first
       | (refine ⟨⟨k + 1, by omega, by go_num, ?_, HE3.out⟩, by simp [intOf]; omega⟩
          rw [HLN.out, HNEXT.out, e1, e3]; simpa using HO3.out)
       | (have hwr : writable num n = true ∧ 0 ≤ n := HWR.out (by
            first
             | (left; simp only [bne, e1]; rfl)
             | (left; rw [e2]; simp)
             | (right
                have hh := HHH.out; have hh2 : h = 2 := by simpa using e3
                rw [hh2] at hh
                revert hh
                cases bmu <;> cases bma <;> simp))
          obtain ⟨hw1, hw2⟩ := hwr; have HN3 : RowKit.Hid (LN = L1 ++ ((tagOf K num, written3 num n _) :: if (num == 59 && n == 7) = true then [(18, [54])] else [])) := Lib.hid (by rw [HNEXT.out, if_neg]; first | (rw [e1]; simp; done) | (rw [e2]; simp; done) | (rw [e3]; simp; done)); refine (tag_calls K num _).mono ?_; rintro e w' ⟨rfl, rfl⟩; go_wp2_with fail; refine (written5_calls num n _ _ hw1 hw2 hr2 hsl).mono ?_; rintro e w6 ⟨rfl, hE6⟩; have HE6 := Lib.hid (HE3.out.trans hE6); have HO6 := Lib.hid (HO3.out.ext hE6); clear hE6; rcases H59.out with c1 | ⟨c1, c2⟩ | ⟨c1, c2⟩
          all_goals
           go_wp2_with (first
            | (at_builtin; refine wpList_fld (W := w1) (.tmp 51) (.tmp 61) rfl rfl _ L1 rfl HO6.out HE6.out (tagOf K num) _ rfl (by have := HLEN1.out; omega) ?_; intro vB wB hownB hxB; have HOB := Lib.hid hownB; have HEB := Lib.hid hxB; clear hownB hxB)
            | (at_builtin; refine wpList_fld (W := w1) (.tmp 69) (.tmp 71) rfl rfl _ _ rfl HOB.out HEB.out 18 [54] rfl (by have := HLEN1.out; simp; omega) ?_; intro vC wC hownC hxC; have HOC := Lib.hid hownC; have HEC := Lib.hid hxC; clear hownC hxC))
           first
            | (refine ⟨⟨k + 1, by omega, by go_num, ?_, HEC.out⟩, by simp [intOf]; omega⟩
               rw [HLN.out, HN3.out, c1, c2]; simpa using HOC.out)
            | (refine ⟨⟨k + 1, by omega, by go_num, ?_, HEB.out⟩, by simp [intOf]; omega⟩
               rw [HLN.out, HN3.out, c1]; first | (simpa using HOB.out) | (rw [c2]; simpa using HOB.out)))
  · obtain rfl : k = 42 := by omega
    have hlen := soFar3_len m 42; generalize List.flatMap (fieldsAt3 m) (List.range 42) = L0 at *; have hk4 := HKC.out _ (HM1.out.ext HEX.out); have hr4 := HRW.out _ (HM1.out.ext HEX.out); have hgl := (HM1.out.ext HEX.out).lt; obtain ⟨sc, hsc⟩ : ∃ b, hasScope (gi m 0) = b := ⟨_, rfl⟩
    have HN := Lib.hid (fun w => number530_calls (gi m 0) w); rw [hsc] at HN HR; have HLE : RowKit.Hid (L0.length ≤ 126) := Lib.hid (by omega); clear hsc hlen; cases sc with
    | false =>
     simp only [Bool.false_eq_true, if_false, List.append_nil] at HN HR; go_wp2_with fail; refine (HN.out _).mono ?_; rintro e w' ⟨rfl, rfl⟩; go_wp2; go_ret; refine ⟨⟨_, rfl, ?_⟩, HX1.out.trans HEX.out⟩; rw [HR.out]; exact HOWN.out.more HX1.out.size
    | true =>
     simp only [if_true] at HN HR; go_wp2_with fail; refine (HN.out _).mono ?_; rintro e w' ⟨rfl, rfl⟩; go_wp2_with fail; refine (HSC.out _).mono ?_; rintro e w5 ⟨rfl, hE5⟩; have HE5 := Lib.hid (HEX.out.trans hE5); have HO5 := Lib.hid (HOWN.out.ext hE5); clear hE5; go_wp2_with (first | (at_builtin; refine wpList_fld (W := w1) (.tmp 77) (.tmp 81) rfl rfl _ L0 rfl HO5.out HE5.out 530 _ rfl (by have := HLE.out; omega) ?_; intro vB wB hownB hxB; have HOB := Lib.hid hownB; have HEB := Lib.hid hxB; clear hownB hxB)); go_ret; refine ⟨⟨_, rfl, ?_⟩, HX1.out.trans HEB.out⟩; rw [HR.out]; exact HOB.out.more HX1.out.size
end
end Go.Proofs.YtdmjinlgdkgoiaaGreatDoor
