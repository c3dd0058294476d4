/- Of the layer fix: RefValid. -/
import Derived.Test.YtdmjinlgdkgoiaaGreatDoorFeAu
import Derived.Test.YtdmjinlgdkgoiaaGreatDoorFeAw
import Derived.Test.YtdmjinlgdkgoiaaGreatDoorFeBb
import Derived.Deep.QuietTactic
import Derived.BigQuiet
set_option linter.unusedVariables false
set_option linter.unusedSimpArgs false
set_option maxRecDepth 100000
namespace Go.Proofs.YtdmjinlgdkgoiaaGreatDoor
section
open Go Go.RowKit
set_option maxHeartbeats 1600000
attribute [local go_sem ↓] loadVarMsg
attribute [local go_sem] ba_get loadRowMsg rowOf_new rowOf_old rowOf_drew
def rowSays3 (num : Int) (th mu ma fi ze : Bool) : Option (Int × Int) := if th && !mu && !ma then some (32, num) else if th && !fi || !th && mu && !ze then some (31, num) else none
theorem rowFault3 {m : Msg} (hm : WT m) (hk : isKind (gi m 0) = true) {k : Nat} {r : Row} (hr : rows3[k]? = some r) : rowFault m k r = rowSays3 r.num (there m k) (inSet r.must (gi m 0)) (inSet r.may (gi m 0)) (fine3 r (valN m k) (gs m k)) r.zero := by
 cases k with
 | zero =>
  obtain rfl : (⟨35, .num, 1, 17, false, allK, 0⟩ : Row) = r := Option.some.inj hr; rw [rowFault_first hm hk]; have h2 : there m 0 = true := by
   unfold there; rw [hm.int (k := 0) rfl]; unfold isKind at hk; simp at hk ⊢; omega
  have h3 : fine3 ⟨35, .num, 1, 17, false, allK, 0⟩ (valN m 0) (gs m 0) = true := by
   rw [valN_int hm rfl]; exact hk
  rw [h2, h3]; show none = rowSays3 35 true (inSet allK (gi m 0)) _ true false
  rw [all_in hk]; rfl
 | succ j =>
  unfold rowFault rowSays3; have hr' : rows[j]? = some r := hr; rcases ht : there m (j + 1) with _ | _
  · rfl
  · rw [fine_val hm hr' ht]
theorem rowsFault3 {m : Msg} {k : Nat} {r : Row} (hr : rows3[k]? = some r) : rowsFault m k (rows3.drop k) = match rowFault m k r with | some e => some e | none => rowsFault m (k + 1) (rows3.drop (k + 1)) := by
 obtain ⟨hk, rfl⟩ := List.getElem?_eq_some_iff.1 hr; rw [List.drop_eq_getElem_cons hk]; rfl
theorem numbered3 {k : Nat} {r : Row} (hr : rows3[k]? = some r) : numbered.getD k 0 = r.num := by
 cases k with
 | zero =>
  obtain rfl : (⟨35, .num, 1, 17, false, allK, 0⟩ : Row) = r := Option.some.inj hr; rfl
 | succ j => exact numbered_at hr
theorem valN_range {m : Msg} (hm : WT m) (k : Nat) : -9223372036854775808 ≤ valN m k ∧ valN m k ≤ 9223372036854775807 := by
 unfold valN; cases hk : m[k]? with
 | none => simp
 | some c =>
  have h := hm.okAt hk; cases c with
  | I n => simpa [Cell.ok] using h
  | S s => simp
  | B b => cases b <;> simp
theorem gs_short {m : Msg} (hm : WT m) (k : Nat) : (gs m k).length ≤ 140737488355328 := by
 unfold gs; cases hk : m[k]? with
 | none => simp
 | some c =>
  have h := hm.okAt hk; cases c with
  | S s => simpa [Cell.ok] using h
  | I n => simp
  | B b => simp
theorem fitsNum_pos (m : Msg) : 0 < fitsNum m ∨ fitsNum m = 0 := by
 unfold fitsNum; cases h : (fitsList m).find? (·.1) with
 | none => exact .inr rfl
 | some x =>
  left
  have := List.mem_of_find?_eq_some h; simp only [fitsList, List.mem_cons, List.mem_nil_iff, or_false] at this; rcases this with rfl | rfl | rfl | rfl | rfl | rfl | rfl | rfl | rfl | rfl <;> simp
theorem seven {W : World} {g : Nat} {c0 c1 c2 c3 c4 c5 c6 : Value} {t : TypeId} (h : W.heap[g]? = some (.cells #[c0, c1, c2, c3, c4, c5, c6] t)) :
 W.cell? ⟨g, 0, none⟩ = some c0 ∧ W.cell? ⟨g, 1, none⟩ = some c1 ∧ W.cell? ⟨g, 2, none⟩ = some c2 ∧ W.cell? ⟨g, 3, none⟩ = some c3 ∧ W.cell? ⟨g, 4, none⟩ = some c4 ∧ W.cell? ⟨g, 5, none⟩ = some c5 ∧ W.cell? ⟨g, 6, none⟩ = some c6 := by
 have := (blk_facts h).1; exact ⟨this 0, this 1, this 2, this 3, this 4, this 5, this 6⟩
theorem rValid_calls (m : Msg) (hm : WT m) (w : World) : Calls Tryz.prog 40 #[.agg (msgV m)] w fun e w' => e = .returned (.tuple #[.int .i64 (valid m).1, .int .i64 (valid m).2]) ∧ Ext w w' := by
 have hs := msgV_size hm; have x0 := boxI w hm (k := 0) rfl; have HX := Lib.hid ((Ext.refl w).alloc (.cells (msgV m) 23)); by_cases hk : isKind (gi m 0) = true
 case neg =>
  have e : valid m = (30, 35) := by unfold valid; simp [hk]
  rw [e]; have h17 : gi m 0 < 1 ∨ (1 ≤ gi m 0 ∧ 17 < gi m 0) := by
   unfold isKind at hk; simp at hk; omega
  clear e hk; rcases h17 with h | ⟨h1, h2⟩
  all_goals
   go_enter Tryz.func40, Tryz.ntmps40
   go_wp2; go_ret2; exact ⟨rfl, HX.out⟩
 case pos =>
  have h17 : 1 ≤ gi m 0 ∧ gi m 0 ≤ 17 := by unfold isKind at hk; simpa using hk
  obtain ⟨k1, k2⟩ := h17; have HM := Lib.hid (show MsgAt (w.alloc (.cells (msgV m) 23)) w.heap.size m from ⟨hm, heap_alloc_new _ _⟩); have hv := valid_of hk (o := _) rfl; rw [← rowsFault_first hm hk] at hv; obtain ⟨RF, hrf⟩ : ∃ x, rowsFault m 0 rows3 = x := ⟨_, rfl⟩
  rw [hrf] at hv; have HRF := Lib.hid hrf; have HV := Lib.hid hv; have HVAL := Lib.hid (fun k hk w => rValue_calls m hm k hk w); have HFITS := Lib.hid (fun hb w => rFits_calls m hm hb w); have HBD : RowKit.Hid (rowsFault m 1 rows = none → _) := Lib.hid (fun h => fits_bound hm h); have HFIRST := Lib.hid (rowsFault_first hm hk); have HROW := Lib.hid (fun k r (hr : rows3[k]? = some r) => rowFault3 hm hk hr); have HKC := Lib.hid (fun (W : World) (h : MsgAt W w.heap.size m) => (show W.cell? ⟨w.heap.size, 0, none⟩ = some (.int .i64 (gi m 0)) by rw [h.cell (k := 0) (by decide), cellAt_int hm rfl])); have HRW := Lib.hid (fun (W : World) (h : MsgAt W w.heap.size m) => rowOf_blk h.blk); have HWT := Lib.hid hm; clear hk hv hrf hm; generalize hR0 : valid m = R at *; generalize gi m 0 = K at *; go_enter Tryz.func40, Tryz.ntmps40
  go_wp2_with fail; refine (rows3_calls _).mono ?_; rintro e w1 ⟨⟨b, rfl, hrows⟩, hE⟩; have HE := Lib.hid (HX.out.trans hE); have HM1 := Lib.hid (HM.out.ext hE); have HROWS := Lib.hid hrows; clear hE hrows x0; generalize hgg : w.heap.size = g at *; go_wp2_with fail; go_loopw [5] (fun i wr => ∃ k : Nat, k ≤ 42 ∧ i = .int .i64 k ∧ Ext w1 wr ∧ rowsFault m k (rows3.drop k) = RF) (fun i _ => 42 - (intOf i).toNat)
  case atStart => exact ⟨0, by omega, rfl, Ext.refl _, HRF.out⟩
  case round =>
   obtain ⟨k, hk, rfl, hE, hrf⟩ := hrel; have HE2 := Lib.hid hE; have HF := Lib.hid hrf; clear hE hrf; by_cases hlt : k < 42
   · obtain ⟨r, hr⟩ : ∃ r, rows3[k]? = some r := ⟨rows3[k]'(by rw [rows3_len]; exact hlt), List.getElem?_eq_getElem _⟩
     obtain ⟨l, hl⟩ : ∃ l, lists3[k]? = some l := ⟨lists3[k]'(by rw [lists3_len]; exact hlt), List.getElem?_eq_getElem _⟩
     obtain ⟨mu, ma, ⟨p0, p1, p2, p3, p4, p5, p6⟩, hmu, hma⟩ := (HROWS.out.ext HE2.out) k r l hr hl; obtain ⟨n1, n2⟩ := list_short hl; obtain ⟨a1, a2⟩ := among_is hr hl K; have HH := Lib.hid (fun w0 (h : Ext wr w0) => rHas_calls r mu ma l.1 l.2 K w0 (hmu.ext h) (hma.ext h) n1 n2); rw [a1, a2] at HH; have HVK := Lib.hid (HVAL.out k hlt); rw [numbered3 hr] at HVK; obtain ⟨hr1, hr2⟩ := valN_range HWT.out k; have hsl := gs_short HWT.out k; have HMAY := Lib.hid (fun w0 => rMay_calls r mu ma (valN m k) (gs m k) w0 hsl ⟨hr1, hr2⟩); rw [rowsFault3 hr, HROW.out k r hr, there_val m k] at HF; obtain ⟨Am, rfl, hy1⟩ := id hmu; obtain ⟨Aa, rfl, hy2⟩ := id hma; clear hy1 hy2; clear hmu hma n1 n2 a1 a2 hr hl; generalize l.1.length = na at *; generalize l.2.length = nb at *; generalize valN m k = n at *; generalize gs m k = s at *; generalize inSet r.must K = bmu at *; generalize inSet r.may K = bma at *; generalize fine3 r n s = bfi at *; unfold rowV at HH HMAY; obtain ⟨num, what, lo, hi, zero, must, may⟩ := r; dsimp only at p0 p1 p2 p3 p4 p5 p6 HH HMAY HVK HF; have hrow := HRW.out _ (HM1.out.ext HE2.out); have hgl := (HM1.out.ext HE2.out).lt; have HNB := Lib.hid (heap_alloc_new wr (.cells #[.int .i64 num, .int .i64 (whatN what), .int .i64 lo, .int .i64 hi, .bool zero, .slice Am na na, .slice Aa nb nb] 135)); have HNX := Lib.hid ((Ext.refl wr).alloc (.cells #[.int .i64 num, .int .i64 (whatN what), .int .i64 lo, .int .i64 hi, .bool zero, .slice Am na na, .slice Aa nb nb] 135))
     go_wp2_with fail; refine (HVK.out _).mono ?_; rintro e w2 ⟨rfl, hEw⟩; have HB2 := Lib.hid (hEw.heap HNB.out); have HX2 := Lib.hid (HNX.out.trans hEw); have hk2 := HKC.out _ ((HM1.out.ext HE2.out).ext HX2.out); obtain ⟨q0, q1, q2, q3, q4, q5, q6⟩ := seven HB2.out; clear hEw hrow hgl p0 p1 p2 p3 p4 p5 p6; have hth : (n != 0) = true ∨ (n != 0) = false ∧ s.isEmpty = false ∨ (n != 0) = false ∧ s = [] := by
      cases (n != 0) <;> cases s <;> simp
     rcases hth with t1 | ⟨t1, t2⟩ | ⟨t1, rfl⟩
     case' inr.inl => have t3 : (!s.isEmpty) = true := by rw [t2]; rfl
     all_goals
      cases bmu <;> cases bma <;> cases bfi <;> cases zero
     all_goals
      simp only [if_true, if_false, Bool.false_eq_true] at HH; go_wp2_with fail; refine (HH.out _ HX2.out).mono ?_; rintro e w3 ⟨rfl, hE3⟩; have HB3 := Lib.hid (hE3.heap HB2.out); have HX3 := Lib.hid (HX2.out.trans hE3); clear hE3 q0 q1 q2 q3 q4 q5 q6 hk2; obtain ⟨q0, q1, q2, q3, q4, q5, q6⟩ := seven HB3.out; go_wp2_with fail; refine (HMAY.out _).mono ?_; rintro e w4 ⟨rfl, hE4⟩; have HX4 := Lib.hid (HE2.out.trans (HX3.out.trans hE4)); obtain ⟨z0, _, _, _, z4, _, _⟩ := seven (hE4.heap HB3.out); have hbl := lt_of_cell z0; clear hE4 q0 q1 q2 q3 q4 q5 q6; have HF2 := HF.out; simp only [rowSays3, t1, Bool.true_or, Bool.false_or, Bool.not_true, Bool.not_false, Bool.and_true, Bool.and_false, Bool.true_and, Bool.false_and, Bool.or_true, Bool.or_false, if_true, if_false, Bool.false_eq_true, List.isEmpty_nil] at HF2
      (try simp only [t2, Bool.not_false, Bool.not_true, Bool.true_and, Bool.false_and, Bool.and_true, Bool.and_false, Bool.or_false, Bool.false_or, if_true, if_false, Bool.false_eq_true] at HF2)
      have HF3 := Lib.hid HF2; clear HF2 HF; simp only [if_true, if_false, Bool.false_eq_true]; go_wp2
      first
       | (go_roundw
          case rel => exact ⟨k + 1, by omega, by go_num, HX4.out, HF3.out⟩
          case measure => simp [intOf]; omega)
       | (refine wp_region_steps (fun _ => by kernel_rfl) [.is (.pointer (some ⟨wr.heap.size, 0, none⟩)), .is (.int .i64 num), .is (.int .i64 32), .is (.int .i64 num)] (by kernel_rfl) ?_ ?_
          · refine And.intro ?_ (And.intro ?_ (And.intro ?_ (And.intro ?_ (True.intro))))
            · intro ρ w' hE hB hD; have e6 : ρ (.tmp 6) = _ := hB (.tmp 6) rfl; clear hB hD; refine .inl ⟨rfl, ?_⟩; unfold Gives; go_simp; first | done | exact xr0 | exact xr1
            · intro ρ w' hE hB hD; have q := hE.cell z0; have e59 : ρ (.tmp 59) = .pointer (some ⟨wr.heap.size, 0, none⟩) := hD 0 59 rfl rfl; clear hB hD; refine .inl ⟨rfl, ?_⟩; unfold Gives; go_simp; first | done | exact xr0 | exact xr1
            · intro ρ w' hE hB hD; have ec := ctK hB
              clear hB hD; refine .inl ⟨rfl, ?_⟩; unfold Gives; go_simp; first | done | exact xr0 | exact xr1
            · intro ρ w' hE hB hD; have e60 : ρ (.tmp 60) = .int .i64 num := hD 1 60 rfl rfl; clear hB hD; refine .inl ⟨rfl, ?_⟩; unfold Gives; go_simp; first | done | exact xr0 | exact xr1
          · intro a' u9 hE9 hd' hs' hB' hP'; have ha' := act_of_posts [(59, .pointer (some ⟨wr.heap.size, 0, none⟩)), (60, .int .i64 num), (2, .int .i64 32), (3, .int .i64 num)] hd' hs' hB' (by simp) (by kernel_rfl) (by
             intro p hp; simp only [List.mem_cons, List.mem_nil_iff, or_false] at hp
             rcases hp with rfl | rfl | rfl | rfl
             · exact hP' 0 59 rfl
             · exact hP' 1 60 rfl
             · exact hP' 2 2 rfl
             · exact hP' 3 3 rfl)
            clear hB' hP' hs' hd'; simp only [List.foldl_cons, List.foldl_nil, List.setIfInBounds_toArray, List.set_cons_succ, List.set_cons_zero] at ha'; subst ha'; go_wp2; go_ret2; exact ⟨by rw [HV.out, ← HF3.out]; rfl, (HE.out.trans HX4.out).trans hE9⟩)
       | (refine wp_region_steps (fun _ => by kernel_rfl) [.is (.pointer (some ⟨wr.heap.size, 0, none⟩)), .is (.int .i64 num), .is (.int .i64 31), .is (.int .i64 num)] (by kernel_rfl) ?_ ?_
          · refine And.intro ?_ (And.intro ?_ (And.intro ?_ (And.intro ?_ (True.intro))))
            · intro ρ w' hE hB hD; have e6 : ρ (.tmp 6) = _ := hB (.tmp 6) rfl; clear hB hD; refine .inl ⟨rfl, ?_⟩; unfold Gives; go_simp; first | done | exact xr0 | exact xr1
            · intro ρ w' hE hB hD; have q := hE.cell z0; have e73 : ρ (.tmp 73) = .pointer (some ⟨wr.heap.size, 0, none⟩) := hD 0 73 rfl rfl; clear hB hD; refine .inl ⟨rfl, ?_⟩; unfold Gives; go_simp; first | done | exact xr0 | exact xr1
            · intro ρ w' hE hB hD; have ec := ctK hB
              clear hB hD; refine .inl ⟨rfl, ?_⟩; unfold Gives; go_simp; first | done | exact xr0 | exact xr1
            · intro ρ w' hE hB hD; have e74 : ρ (.tmp 74) = .int .i64 num := hD 1 74 rfl rfl; clear hB hD; refine .inl ⟨rfl, ?_⟩; unfold Gives; go_simp; first | done | exact xr0 | exact xr1
          · intro a' u9 hE9 hd' hs' hB' hP'; have ha' := act_of_posts [(73, .pointer (some ⟨wr.heap.size, 0, none⟩)), (74, .int .i64 num), (2, .int .i64 31), (3, .int .i64 num)] hd' hs' hB' (by simp) (by kernel_rfl) (by
             intro p hp; simp only [List.mem_cons, List.mem_nil_iff, or_false] at hp
             rcases hp with rfl | rfl | rfl | rfl
             · exact hP' 0 73 rfl
             · exact hP' 1 74 rfl
             · exact hP' 2 2 rfl
             · exact hP' 3 3 rfl)
            clear hB' hP' hs' hd'; simp only [List.foldl_cons, List.foldl_nil, List.setIfInBounds_toArray, List.set_cons_succ, List.set_cons_zero] at ha'; subst ha'; go_wp2; go_ret2; exact ⟨by rw [HV.out, ← HF3.out]; rfl, (HE.out.trans HX4.out).trans hE9⟩)
       | (refine wp_region_steps (fun _ => by kernel_rfl) [.is (.pointer (some ⟨wr.heap.size, 0, none⟩)), .is (.int .i64 num), .is (.int .i64 31), .is (.int .i64 num)] (by kernel_rfl) ?_ ?_
          · refine And.intro ?_ (And.intro ?_ (And.intro ?_ (And.intro ?_ (True.intro))))
            · intro ρ w' hE hB hD; have e6 : ρ (.tmp 6) = _ := hB (.tmp 6) rfl; clear hB hD; refine .inl ⟨rfl, ?_⟩; unfold Gives; go_simp; first | done | exact xr0 | exact xr1
            · intro ρ w' hE hB hD; have q := hE.cell z0; have e81 : ρ (.tmp 81) = .pointer (some ⟨wr.heap.size, 0, none⟩) := hD 0 81 rfl rfl; clear hB hD; refine .inl ⟨rfl, ?_⟩; unfold Gives; go_simp; first | done | exact xr0 | exact xr1
            · intro ρ w' hE hB hD; have ec := ctK hB
              clear hB hD; refine .inl ⟨rfl, ?_⟩; unfold Gives; go_simp; first | done | exact xr0 | exact xr1
            · intro ρ w' hE hB hD; have e82 : ρ (.tmp 82) = .int .i64 num := hD 1 82 rfl rfl; clear hB hD; refine .inl ⟨rfl, ?_⟩; unfold Gives; go_simp; first | done | exact xr0 | exact xr1
          · intro a' u9 hE9 hd' hs' hB' hP'; have ha' := act_of_posts [(81, .pointer (some ⟨wr.heap.size, 0, none⟩)), (82, .int .i64 num), (2, .int .i64 31), (3, .int .i64 num)] hd' hs' hB' (by simp) (by kernel_rfl) (by
             intro p hp; simp only [List.mem_cons, List.mem_nil_iff, or_false] at hp
             rcases hp with rfl | rfl | rfl | rfl
             · exact hP' 0 81 rfl
             · exact hP' 1 82 rfl
             · exact hP' 2 2 rfl
             · exact hP' 3 3 rfl)
            clear hB' hP' hs' hd'; simp only [List.foldl_cons, List.foldl_nil, List.setIfInBounds_toArray, List.set_cons_succ, List.set_cons_zero] at ha'; subst ha'; go_wp2; go_ret2; exact ⟨by rw [HV.out, ← HF3.out]; rfl, (HE.out.trans HX4.out).trans hE9⟩)
   · obtain rfl : k = 42 := by omega
     have hnone : RF = none := by rw [← HF.out]; rfl
     subst hnone; have hfn : 0 < fitsNum m ∨ fitsNum m = 0 := fitsNum_pos m; have hv := HV.out; have HFT := Lib.hid (HFITS.out (HBD.out (HFIRST.out.symm.trans HRF.out))); have hrow := HRW.out _ (HM1.out.ext HE2.out); unfold theAnswer at hv; dsimp only at hv; obtain ⟨f, hf⟩ : ∃ f, fitsNum m = f := ⟨_, rfl⟩
     rw [hf] at hv hfn HFT; clear hf; rcases hfn with h | h
     · have e : R = (31, f) := by rw [hv, if_pos (by simp; omega)]
       clear hv; subst e; go_wp2_with fail; refine (HFT.out _).mono ?_; rintro e w' ⟨rfl, hE5⟩; go_wp2; go_ret2; exact ⟨rfl, (HE.out.trans HE2.out).trans hE5⟩
     · have e : R = (0, 0) := by rw [hv, if_neg (by simp; omega)]
       clear hv; subst e; subst h; go_wp2_with fail; refine (HFT.out _).mono ?_; rintro e w' ⟨rfl, hE5⟩; go_wp2; go_ret2; exact ⟨rfl, (HE.out.trans HE2.out).trans hE5⟩
end
end Go.Proofs.YtdmjinlgdkgoiaaGreatDoor
