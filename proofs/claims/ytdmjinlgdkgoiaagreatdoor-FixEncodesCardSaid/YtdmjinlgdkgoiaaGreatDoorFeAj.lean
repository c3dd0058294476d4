/- Of the layer fix: MsgFits. -/
import Derived.Test.YtdmjinlgdkgoiaaGreatDoorFeAi
set_option linter.unusedVariables false
set_option linter.unusedSimpArgs false
set_option maxRecDepth 100000
namespace Go.Proofs.YtdmjinlgdkgoiaaGreatDoor
section
open Go Go.RowKit
set_option maxHeartbeats 4000000
@[irreducible] def gd (c : Bool) (v : Value) : Value := bif c then v else undef
theorem gd_true (v : Value) : gd true v = v := by unfold gd; rfl
theorem gd_false (v : Value) : gd false v = undef := by unfold gd; rfl
theorem wanted_t {ops : Array Oper} {ρ : Operand → Value} {o : Oper} {j d : Nat} {b : Bool} (hg : o.guard = some (j, true)) (hd : (ops[j]?).bind (fun o : Oper => o.dst) = some d) (he : ρ (.tmp d) = .bool b) : wantedBy ops ρ o = b := by
 unfold wantedBy; simp only [hg, hd, he]; cases b <;> rfl
theorem wanted_f {ops : Array Oper} {ρ : Operand → Value} {o : Oper} {j d : Nat} {b : Bool} (hg : o.guard = some (j, false)) (hd : (ops[j]?).bind (fun o : Oper => o.dst) = some d) (he : ρ (.tmp d) = .bool b) : wantedBy ops ρ o = !b := by
 unfold wantedBy; simp only [hg, hd, he]; cases b <;> rfl
def fitsVals (m : Msg) : List Value := (fitsList m).map fun p => .agg #[.bool p.1, .int .i64 p.2]
def fitsCells (m : Msg) : List Value := flat (fitsVals m)
structure IsFits (m : Msg) (w : World) (v : Value) : Prop where
 is : ∃ b, v = .slice (some ⟨b, 0, none⟩) 10 10 ∧ w.heap[b]? = some (.cells (fitsCells m).toArray 155)
def pFits (m : Msg) : MPost := ⟨fun v w => IsFits m w v, fun v w w' h hE => by
 obtain ⟨b, e, hb⟩ := h; exact ⟨b, e, hE.heap hb⟩⟩
theorem fits_at (m : Msg) (w : World) (b : Nat) (hb : w.heap[b]? = some (.cells (fitsCells m).toArray 155)) (k : Nat) (c : Bool) (n : Int) (hk : (fitsList m)[k]? = some (c, n)) :
 w.cell? ⟨b, k * 2, none⟩ = some (.bool c) ∧ w.cell? ⟨b, k * 2 + 1, none⟩ = some (.int .i64 n) := by
 have hc : ∀ j, j < 2 → w.cell? ⟨b, k * 2 + j, none⟩ = (#[.bool c, .int .i64 n] : Array Value)[j]? := by
  intro j hj; rw [cell_of_row w b _ _ _ (0, 0) hb]; have := flat_at 2 (fitsVals m) (fun x hx => by
   obtain ⟨p, _, rfl⟩ := List.mem_map.1 hx; rfl) k j (.agg #[.bool c, .int .i64 n]) (by simp [fitsVals, hk]) hj
  rw [Nat.mul_comm] at this; simpa [fitsCells, Value.cells] using this
 exact ⟨hc 0 (by omega), hc 1 (by omega)⟩
def fitsFrom (l : List (Bool × Int)) : Int := match l.find? (·.1) with
 | some x => x.2
 | none => 0
theorem cell0 {m : Msg} (hm : WT m) : (msgV m)[0]? = some (.int .i64 (gi m 0)) := by
 rw [msgV_at hm (by decide), cellAt, List.getD_eq_getElem?_getD, hm.int (by decide)]; rfl
theorem cell4 {m : Msg} (hm : WT m) : (msgV m)[4]? = some (.bool (gb m 4)) := by
 rw [msgV_at hm (by decide), cellAt, List.getD_eq_getElem?_getD, hm.bool (by decide)]; rfl
theorem cell6 {m : Msg} (hm : WT m) : (msgV m)[6]? = some (.int .i64 (gi m 6)) := by
 rw [msgV_at hm (by decide), cellAt, List.getD_eq_getElem?_getD, hm.int (by decide)]; rfl
theorem cell10 {m : Msg} (hm : WT m) : (msgV m)[10]? = some (.int .i64 (gi m 10)) := by
 rw [msgV_at hm (by decide), cellAt, List.getD_eq_getElem?_getD, hm.int (by decide)]; rfl
theorem cell11 {m : Msg} (hm : WT m) : (msgV m)[11]? = some (.int .i64 (gi m 11)) := by
 rw [msgV_at hm (by decide), cellAt, List.getD_eq_getElem?_getD, hm.int (by decide)]; rfl
theorem cell24 {m : Msg} (hm : WT m) : (msgV m)[24]? = some (.int .i64 (gi m 24)) := by
 rw [msgV_at hm (by decide), cellAt, List.getD_eq_getElem?_getD, hm.int (by decide)]; rfl
theorem cell25 {m : Msg} (hm : WT m) : (msgV m)[25]? = some (.int .i64 (gi m 25)) := by
 rw [msgV_at hm (by decide), cellAt, List.getD_eq_getElem?_getD, hm.int (by decide)]; rfl
theorem cell26 {m : Msg} (hm : WT m) : (msgV m)[26]? = some (.int .i64 (gi m 26)) := by
 rw [msgV_at hm (by decide), cellAt, List.getD_eq_getElem?_getD, hm.int (by decide)]; rfl
theorem cell27 {m : Msg} (hm : WT m) : (msgV m)[27]? = some (.int .i64 (gi m 27)) := by
 rw [msgV_at hm (by decide), cellAt, List.getD_eq_getElem?_getD, hm.int (by decide)]; rfl
theorem cell28 {m : Msg} (hm : WT m) : (msgV m)[28]? = some (.int .i64 (gi m 28)) := by
 rw [msgV_at hm (by decide), cellAt, List.getD_eq_getElem?_getD, hm.int (by decide)]; rfl
theorem cell29 {m : Msg} (hm : WT m) : (msgV m)[29]? = some (.int .i64 (gi m 29)) := by
 rw [msgV_at hm (by decide), cellAt, List.getD_eq_getElem?_getD, hm.int (by decide)]; rfl
theorem cell30 {m : Msg} (hm : WT m) : (msgV m)[30]? = some (.int .i64 (gi m 30)) := by
 rw [msgV_at hm (by decide), cellAt, List.getD_eq_getElem?_getD, hm.int (by decide)]; rfl
theorem cell31 {m : Msg} (hm : WT m) : (msgV m)[31]? = some (.int .i64 (gi m 31)) := by
 rw [msgV_at hm (by decide), cellAt, List.getD_eq_getElem?_getD, hm.int (by decide)]; rfl
theorem cell34 {m : Msg} (hm : WT m) : (msgV m)[34]? = some (.int .i64 (gi m 34)) := by
 rw [msgV_at hm (by decide), cellAt, List.getD_eq_getElem?_getD, hm.int (by decide)]; rfl
theorem cell36 {m : Msg} (hm : WT m) : (msgV m)[36]? = some (.int .i64 (gi m 36)) := by
 rw [msgV_at hm (by decide), cellAt, List.getD_eq_getElem?_getD, hm.int (by decide)]; rfl
theorem cell37 {m : Msg} (hm : WT m) : (msgV m)[37]? = some (.int .i64 (gi m 37)) := by
 rw [msgV_at hm (by decide), cellAt, List.getD_eq_getElem?_getD, hm.int (by decide)]; rfl
theorem cell38 {m : Msg} (hm : WT m) : (msgV m)[38]? = some (.int .i64 (gi m 38)) := by
 rw [msgV_at hm (by decide), cellAt, List.getD_eq_getElem?_getD, hm.int (by decide)]; rfl
theorem cell39 {m : Msg} (hm : WT m) : (msgV m)[39]? = some (.int .i64 (gi m 39)) := by
 rw [msgV_at hm (by decide), cellAt, List.getD_eq_getElem?_getD, hm.int (by decide)]; rfl
theorem fits_calls (m : Msg) (hm : WT m) (h38 : 0 ≤ gi m 38 ∧ gi m 38 ≤ 1000000) (h39 : 0 ≤ gi m 39 ∧ gi m 39 ≤ 1000000) (w : World) : Calls Tryz.prog 45 #[.agg (msgV m)] w fun e w' => e = .returned (.int .i64 (fitsNum m)) ∧ Ext w w' := by
 have hs := msgV_size hm; go_enter Tryz.func45, Tryz.ntmps45
 apply wp_seq_k; intro K0 h0
 have H0 := Lib.hid h0; clear h0
 go_wp2_with fail; apply H0.out
 clear H0 K0; have hX : Ext w (w.alloc (.cells (msgV m) 23)) := (Ext.refl w).alloc _; have hcell : ∀ w', Ext (w.alloc (.cells (msgV m) 23)) w' → ∀ k, k < 42 → w'.cell? ⟨w.heap.size, k, none⟩ = (msgV m)[k]? := by
  intro w' hE k hk; exact cell_of_row _ _ _ _ _ (0, 0) (hE.heap (heap_alloc_new _ _))
 have HC := Lib.hid hcell; clear hcell
 generalize hw : w.alloc (.cells (msgV m) 23) = w0 at *; generalize hg : w.heap.size = g at *; have hs0 := hs; clear hs
 apply wp_seq_k; intro K1 h1
 refine wp_region_steps (fun _ => by kernel_rfl) [.is (.pointer (some ⟨g, 24, none⟩)), .is (.int .i64 (gi m 24)), .is (.bool ((gi m 24) == (1))), .is (.bool ((gi m 24) == (1))), .is (gd (!((gi m 24) == (1))) (.pointer (some ⟨g, 24, none⟩))), .is (gd (!((gi m 24) == (1))) (.int .i64 (gi m 24))), .is (gd (!((gi m 24) == (1))) (.bool ((gi m 24) == (4)))), .is (.bool (((gi m 24) == (1)) || ((gi m 24) == (4)))), .is (.bool (((gi m 24) == (1)) || ((gi m 24) == (4))))] (by kernel_rfl) ?_ ?_
 · refine And.intro ?_ (And.intro ?_ (And.intro ?_ (And.intro ?_ (And.intro ?_ (And.intro ?_ (And.intro ?_ (And.intro ?_ (And.intro ?_ (True.intro)))))))))
   · intro ρ w' hE hB hD; have e1 : ρ (.tmp 1) = _ := hB (.tmp 1) rfl; clear hB hD; refine .inl ⟨rfl, ?_⟩; unfold Gives; go_simp; first | done | exact xr0 | exact xr1
   · intro ρ w' hE hB hD; have q0 := HC.out w' hE 24 (by decide); rw [cell24 hm] at q0; have e8 : ρ (.tmp 8) = .pointer (some ⟨g, 24, none⟩) := hD 0 8 rfl rfl; clear hB hD; refine .inl ⟨rfl, ?_⟩; unfold Gives; go_simp; first | done | exact xr0 | exact xr1
   · intro ρ w' hE hB hD; have ec := ctK hB
     have e9 : ρ (.tmp 9) = .int .i64 (gi m 24) := hD 1 9 rfl rfl; clear hB hD; refine .inl ⟨rfl, ?_⟩; unfold Gives; go_simp; first | done | exact xr0 | exact xr1
   · intro ρ w' hE hB hD; have e10 : ρ (.tmp 10) = .bool ((gi m 24) == (1)) := hD 2 10 rfl rfl; clear hB hD; refine .inl ⟨rfl, ?_⟩; unfold Gives; go_simp; first | done | exact xr0 | exact xr1
   · intro ρ w' hE hB hD; have e1 : ρ (.tmp 1) = _ := hB (.tmp 1) rfl; have e11 : ρ (.tmp 11) = .bool ((gi m 24) == (1)) := hD 3 11 rfl rfl; clear hB hD; rcases Bool.eq_false_or_eq_true (!((gi m 24) == (1))) with hc | hc
     case inr => exact .inr ⟨(wanted_f rfl rfl e11).trans hc, by show undef = gd _ _; rw [hc, gd_false]⟩
     simp only [hc, gd_true] at e1 ⊢; refine .inl ⟨(wanted_f rfl rfl e11).trans hc, ?_⟩; unfold Gives; go_simp; first | done | exact xr0 | exact xr1
   · intro ρ w' hE hB hD; have q0 := HC.out w' hE 24 (by decide); rw [cell24 hm] at q0; have e11 : ρ (.tmp 11) = .bool ((gi m 24) == (1)) := hD 3 11 rfl rfl; have e12 : ρ (.tmp 12) = gd (!((gi m 24) == (1))) (.pointer (some ⟨g, 24, none⟩)) := hD 4 12 rfl rfl; clear hB hD; rcases Bool.eq_false_or_eq_true (!((gi m 24) == (1))) with hc | hc
     case inr => exact .inr ⟨(wanted_f rfl rfl e11).trans hc, by show undef = gd _ _; rw [hc, gd_false]⟩
     simp only [hc, gd_true] at e12 ⊢; refine .inl ⟨(wanted_f rfl rfl e11).trans hc, ?_⟩; unfold Gives; go_simp; first | done | exact xr0 | exact xr1
   · intro ρ w' hE hB hD; have ec := ctK hB
     have e11 : ρ (.tmp 11) = .bool ((gi m 24) == (1)) := hD 3 11 rfl rfl; have e13 : ρ (.tmp 13) = gd (!((gi m 24) == (1))) (.int .i64 (gi m 24)) := hD 5 13 rfl rfl; clear hB hD; rcases Bool.eq_false_or_eq_true (!((gi m 24) == (1))) with hc | hc
     case inr => exact .inr ⟨(wanted_f rfl rfl e11).trans hc, by show undef = gd _ _; rw [hc, gd_false]⟩
     simp only [hc, gd_true] at e13 ⊢; refine .inl ⟨(wanted_f rfl rfl e11).trans hc, ?_⟩; unfold Gives; go_simp; first | done | exact xr0 | exact xr1
   · intro ρ w' hE hB hD; have ec := ctK hB
     have e11 : ρ (.tmp 11) = .bool ((gi m 24) == (1)) := hD 3 11 rfl rfl; have e14 : ρ (.tmp 14) = gd (!((gi m 24) == (1))) (.bool ((gi m 24) == (4))) := hD 6 14 rfl rfl; clear hB hD; refine .inl ⟨rfl, ?_⟩; unfold Gives; rcases Bool.eq_false_or_eq_true ((gi m 24) == (1)) with hc | hc
     all_goals
      simp only [hc, gd_true, gd_false, Bool.not_true, Bool.not_false, Bool.true_or, Bool.false_or, Bool.true_and, Bool.false_and, Bool.or_true, Bool.and_true] at e11 e14 ⊢; clear hc; go_simp; first | done | exact xr0 | exact xr1
   · intro ρ w' hE hB hD; have e15 : ρ (.tmp 15) = .bool (((gi m 24) == (1)) || ((gi m 24) == (4))) := hD 7 15 rfl rfl; clear hB hD; refine .inl ⟨rfl, ?_⟩; unfold Gives; go_simp; first | done | exact xr0 | exact xr1
 intro a' w1 hE1 hd' hs' hB' hP'; have ha' := act_of_posts [(8, .pointer (some ⟨g, 24, none⟩)), (9, .int .i64 (gi m 24)), (10, .bool ((gi m 24) == (1))), (11, .bool ((gi m 24) == (1))), (12, gd (!((gi m 24) == (1))) (.pointer (some ⟨g, 24, none⟩))), (13, gd (!((gi m 24) == (1))) (.int .i64 (gi m 24))), (14, gd (!((gi m 24) == (1))) (.bool ((gi m 24) == (4)))), (15, .bool (((gi m 24) == (1)) || ((gi m 24) == (4)))), (3, .bool (((gi m 24) == (1)) || ((gi m 24) == (4))))] hd' hs' hB' (by simp) (by kernel_rfl) (by
  intro p hp; simp only [List.mem_cons, List.mem_nil_iff, or_false] at hp
  rcases hp with rfl | rfl | rfl | rfl | rfl | rfl | rfl | rfl | rfl
  · exact hP' 0 8 rfl
  · exact hP' 1 9 rfl
  · exact hP' 2 10 rfl
  · exact hP' 3 11 rfl
  · exact hP' 4 12 rfl
  · exact hP' 5 13 rfl
  · exact hP' 6 14 rfl
  · exact hP' 7 15 rfl
  · exact hP' 8 3 rfl)
 clear hB' hP' hs' hd'; simp only [List.foldl_cons, List.foldl_nil, List.setIfInBounds_toArray, List.set_cons_succ, List.set_cons_zero] at ha'; subst ha'; apply h1
 clear h1 K1
 replace HC : RowKit.Hid (∀ w', Ext w1 w' → ∀ k, k < 42 → w'.cell? ⟨g, k, none⟩ = (msgV m)[k]?) := Lib.hid fun w' hE => HC.out w' (hE1.trans hE)
 replace hX := hX.trans hE1
 clear hE1; apply wp_seq_k; intro K2 h2
 refine wp_region_steps (fun _ => by kernel_rfl) [.is (.pointer (some ⟨g, 24, none⟩)), .is (.int .i64 (gi m 24)), .is (.bool ((gi m 24) == (3))), .is (.bool ((gi m 24) == (3))), .is (gd (!((gi m 24) == (3))) (.pointer (some ⟨g, 24, none⟩))), .is (gd (!((gi m 24) == (3))) (.int .i64 (gi m 24))), .is (gd (!((gi m 24) == (3))) (.bool ((gi m 24) == (4)))), .is (.bool (((gi m 24) == (3)) || ((gi m 24) == (4)))), .is (.bool (((gi m 24) == (3)) || ((gi m 24) == (4))))] (by kernel_rfl) ?_ ?_
 · refine And.intro ?_ (And.intro ?_ (And.intro ?_ (And.intro ?_ (And.intro ?_ (And.intro ?_ (And.intro ?_ (And.intro ?_ (And.intro ?_ (True.intro)))))))))
   · intro ρ w' hE hB hD; have e1 : ρ (.tmp 1) = _ := hB (.tmp 1) rfl; clear hB hD; refine .inl ⟨rfl, ?_⟩; unfold Gives; go_simp; first | done | exact xr0 | exact xr1
   · intro ρ w' hE hB hD; have q0 := HC.out w' hE 24 (by decide); rw [cell24 hm] at q0; have e16 : ρ (.tmp 16) = .pointer (some ⟨g, 24, none⟩) := hD 0 16 rfl rfl; clear hB hD; refine .inl ⟨rfl, ?_⟩; unfold Gives; go_simp; first | done | exact xr0 | exact xr1
   · intro ρ w' hE hB hD; have ec := ctK hB
     have e17 : ρ (.tmp 17) = .int .i64 (gi m 24) := hD 1 17 rfl rfl; clear hB hD; refine .inl ⟨rfl, ?_⟩; unfold Gives; go_simp; first | done | exact xr0 | exact xr1
   · intro ρ w' hE hB hD; have e18 : ρ (.tmp 18) = .bool ((gi m 24) == (3)) := hD 2 18 rfl rfl; clear hB hD; refine .inl ⟨rfl, ?_⟩; unfold Gives; go_simp; first | done | exact xr0 | exact xr1
   · intro ρ w' hE hB hD; have e1 : ρ (.tmp 1) = _ := hB (.tmp 1) rfl; have e19 : ρ (.tmp 19) = .bool ((gi m 24) == (3)) := hD 3 19 rfl rfl; clear hB hD; rcases Bool.eq_false_or_eq_true (!((gi m 24) == (3))) with hc | hc
     case inr => exact .inr ⟨(wanted_f rfl rfl e19).trans hc, by show undef = gd _ _; rw [hc, gd_false]⟩
     simp only [hc, gd_true] at e1 ⊢; refine .inl ⟨(wanted_f rfl rfl e19).trans hc, ?_⟩; unfold Gives; go_simp; first | done | exact xr0 | exact xr1
   · intro ρ w' hE hB hD; have q0 := HC.out w' hE 24 (by decide); rw [cell24 hm] at q0; have e19 : ρ (.tmp 19) = .bool ((gi m 24) == (3)) := hD 3 19 rfl rfl; have e20 : ρ (.tmp 20) = gd (!((gi m 24) == (3))) (.pointer (some ⟨g, 24, none⟩)) := hD 4 20 rfl rfl; clear hB hD; rcases Bool.eq_false_or_eq_true (!((gi m 24) == (3))) with hc | hc
     case inr => exact .inr ⟨(wanted_f rfl rfl e19).trans hc, by show undef = gd _ _; rw [hc, gd_false]⟩
     simp only [hc, gd_true] at e20 ⊢; refine .inl ⟨(wanted_f rfl rfl e19).trans hc, ?_⟩; unfold Gives; go_simp; first | done | exact xr0 | exact xr1
   · intro ρ w' hE hB hD; have ec := ctK hB
     have e19 : ρ (.tmp 19) = .bool ((gi m 24) == (3)) := hD 3 19 rfl rfl; have e21 : ρ (.tmp 21) = gd (!((gi m 24) == (3))) (.int .i64 (gi m 24)) := hD 5 21 rfl rfl; clear hB hD; rcases Bool.eq_false_or_eq_true (!((gi m 24) == (3))) with hc | hc
     case inr => exact .inr ⟨(wanted_f rfl rfl e19).trans hc, by show undef = gd _ _; rw [hc, gd_false]⟩
     simp only [hc, gd_true] at e21 ⊢; refine .inl ⟨(wanted_f rfl rfl e19).trans hc, ?_⟩; unfold Gives; go_simp; first | done | exact xr0 | exact xr1
   · intro ρ w' hE hB hD; have ec := ctK hB
     have e19 : ρ (.tmp 19) = .bool ((gi m 24) == (3)) := hD 3 19 rfl rfl; have e22 : ρ (.tmp 22) = gd (!((gi m 24) == (3))) (.bool ((gi m 24) == (4))) := hD 6 22 rfl rfl; clear hB hD; refine .inl ⟨rfl, ?_⟩; unfold Gives; rcases Bool.eq_false_or_eq_true ((gi m 24) == (3)) with hc | hc
     all_goals
      simp only [hc, gd_true, gd_false, Bool.not_true, Bool.not_false, Bool.true_or, Bool.false_or, Bool.true_and, Bool.false_and, Bool.or_true, Bool.and_true] at e19 e22 ⊢; clear hc; go_simp; first | done | exact xr0 | exact xr1
   · intro ρ w' hE hB hD; have e23 : ρ (.tmp 23) = .bool (((gi m 24) == (3)) || ((gi m 24) == (4))) := hD 7 23 rfl rfl; clear hB hD; refine .inl ⟨rfl, ?_⟩; unfold Gives; go_simp; first | done | exact xr0 | exact xr1
 intro a' w2 hE2 hd' hs' hB' hP'; have ha' := act_of_posts [(16, .pointer (some ⟨g, 24, none⟩)), (17, .int .i64 (gi m 24)), (18, .bool ((gi m 24) == (3))), (19, .bool ((gi m 24) == (3))), (20, gd (!((gi m 24) == (3))) (.pointer (some ⟨g, 24, none⟩))), (21, gd (!((gi m 24) == (3))) (.int .i64 (gi m 24))), (22, gd (!((gi m 24) == (3))) (.bool ((gi m 24) == (4)))), (23, .bool (((gi m 24) == (3)) || ((gi m 24) == (4)))), (4, .bool (((gi m 24) == (3)) || ((gi m 24) == (4))))] hd' hs' hB' (by simp) (by kernel_rfl) (by
  intro p hp; simp only [List.mem_cons, List.mem_nil_iff, or_false] at hp
  rcases hp with rfl | rfl | rfl | rfl | rfl | rfl | rfl | rfl | rfl
  · exact hP' 0 16 rfl
  · exact hP' 1 17 rfl
  · exact hP' 2 18 rfl
  · exact hP' 3 19 rfl
  · exact hP' 4 20 rfl
  · exact hP' 5 21 rfl
  · exact hP' 6 22 rfl
  · exact hP' 7 23 rfl
  · exact hP' 8 4 rfl)
 clear hB' hP' hs' hd'; simp only [List.foldl_cons, List.foldl_nil, List.setIfInBounds_toArray, List.set_cons_succ, List.set_cons_zero] at ha'; subst ha'; apply h2
 clear h2 K2
 replace HC : RowKit.Hid (∀ w', Ext w2 w' → ∀ k, k < 42 → w'.cell? ⟨g, k, none⟩ = (msgV m)[k]?) := Lib.hid fun w' hE => HC.out w' (hE2.trans hE)
 replace hX := hX.trans hE2
 clear hE2; apply wp_seq_k; intro K3 h3
 refine wp_region_steps (fun _ => by kernel_rfl) [.is (.pointer (some ⟨g, 34, none⟩)), .is (.int .i64 (gi m 34)), .is (.bool ((gi m 34) == (3))), .is (.bool ((gi m 34) == (3)))] (by kernel_rfl) ?_ ?_
 · refine And.intro ?_ (And.intro ?_ (And.intro ?_ (And.intro ?_ (True.intro))))
   · intro ρ w' hE hB hD; have e1 : ρ (.tmp 1) = _ := hB (.tmp 1) rfl; clear hB hD; refine .inl ⟨rfl, ?_⟩; unfold Gives; go_simp; first | done | exact xr0 | exact xr1
   · intro ρ w' hE hB hD; have q0 := HC.out w' hE 34 (by decide); rw [cell34 hm] at q0; have e24 : ρ (.tmp 24) = .pointer (some ⟨g, 34, none⟩) := hD 0 24 rfl rfl; clear hB hD; refine .inl ⟨rfl, ?_⟩; unfold Gives; go_simp; first | done | exact xr0 | exact xr1
   · intro ρ w' hE hB hD; have ec := ctK hB
     have e25 : ρ (.tmp 25) = .int .i64 (gi m 34) := hD 1 25 rfl rfl; clear hB hD; refine .inl ⟨rfl, ?_⟩; unfold Gives; go_simp; first | done | exact xr0 | exact xr1
   · intro ρ w' hE hB hD; have e26 : ρ (.tmp 26) = .bool ((gi m 34) == (3)) := hD 2 26 rfl rfl; clear hB hD; refine .inl ⟨rfl, ?_⟩; unfold Gives; go_simp; first | done | exact xr0 | exact xr1
 intro a' w3 hE3 hd' hs' hB' hP'; have ha' := act_of_posts [(24, .pointer (some ⟨g, 34, none⟩)), (25, .int .i64 (gi m 34)), (26, .bool ((gi m 34) == (3))), (5, .bool ((gi m 34) == (3)))] hd' hs' hB' (by simp) (by kernel_rfl) (by
  intro p hp; simp only [List.mem_cons, List.mem_nil_iff, or_false] at hp
  rcases hp with rfl | rfl | rfl | rfl
  · exact hP' 0 24 rfl
  · exact hP' 1 25 rfl
  · exact hP' 2 26 rfl
  · exact hP' 3 5 rfl)
 clear hB' hP' hs' hd'; simp only [List.foldl_cons, List.foldl_nil, List.setIfInBounds_toArray, List.set_cons_succ, List.set_cons_zero] at ha'; subst ha'; apply h3
 clear h3 K3
 replace HC : RowKit.Hid (∀ w', Ext w3 w' → ∀ k, k < 42 → w'.cell? ⟨g, k, none⟩ = (msgV m)[k]?) := Lib.hid fun w' hE => HC.out w' (hE3.trans hE)
 replace hX := hX.trans hE3
 clear hE3; apply wp_seq_k; intro K5 h5
 apply wp_seq_k; intro K4 h4
 refine wp_region_steps (fun _ => by kernel_rfl) [.is (.pointer (some ⟨g, 6, none⟩)), .is (.int .i64 (gi m 6)), .is (.bool ((gi m 6) != (0))), .is (.bool ((gi m 6) != (0))), .is (gd ((gi m 6) != (0)) (.pointer (some ⟨g, 4, none⟩))), .is (gd ((gi m 6) != (0)) (.bool (gb m 4))), .is (gd ((gi m 6) != (0)) (.bool (!(gb m 4)))), .is (.bool (((gi m 6) != (0)) && (!(gb m 4)))), .is (.agg #[.bool (((gi m 6) != (0)) && (!(gb m 4))), .int .i64 (122)]), .is (.pointer (some ⟨g, 0, none⟩)), .is (.int .i64 (gi m 0)), .is (.bool ((gi m 0) == (3))), .is (.bool ((gi m 0) == (3))), .is (gd ((gi m 0) == (3)) (.pointer (some ⟨g, 11, none⟩))), .is (gd ((gi m 0) == (3)) (.int .i64 (gi m 11))), .is (gd ((gi m 0) == (3)) (.bool ((gi m 11) != (0)))), .is (.bool (((gi m 0) == (3)) && ((gi m 11) != (0)))), .is (.bool (((gi m 0) == (3)) && ((gi m 11) != (0)))), .is (gd (((gi m 0) == (3)) && ((gi m 11) != (0))) (.pointer (some ⟨g, 11, none⟩))), .is (gd (((gi m 0) == (3)) && ((gi m 11) != (0))) (.int .i64 (gi m 11))), .is (gd (((gi m 0) == (3)) && ((gi m 11) != (0))) (.pointer (some ⟨g, 10, none⟩))), .is (gd (((gi m 0) == (3)) && ((gi m 11) != (0))) (.int .i64 (gi m 10))), .is (gd (((gi m 0) == (3)) && ((gi m 11) != (0))) (.bool (decide ((gi m 11) < (gi m 10))))), .is (.bool ((((gi m 0) == (3)) && ((gi m 11) != (0))) && (decide ((gi m 11) < (gi m 10))))), .is (.agg #[.bool ((((gi m 0) == (3)) && ((gi m 11) != (0))) && (decide ((gi m 11) < (gi m 10)))), .int .i64 (16)]), .is (.pointer (some ⟨g, 0, none⟩)), .is (.int .i64 (gi m 0)), .is (.bool ((gi m 0) == (8))), .is (.bool ((gi m 0) == (8))), .is (gd ((gi m 0) == (8)) (.bool (((gi m 24) == (1)) || ((gi m 24) == (4))))), .is (gd ((gi m 0) == (8)) (.pointer (some ⟨g, 26, none⟩))), .is (gd ((gi m 0) == (8)) (.int .i64 (gi m 26))), .is (gd ((gi m 0) == (8)) (.bool ((gi m 26) != (0)))), .is (gd ((gi m 0) == (8)) (.bool ((((gi m 24) == (1)) || ((gi m 24) == (4))) != ((gi m 26) != (0))))), .is (.bool (((gi m 0) == (8)) && ((((gi m 24) == (1)) || ((gi m 24) == (4))) != ((gi m 26) != (0))))), .is (.agg #[.bool (((gi m 0) == (8)) && ((((gi m 24) == (1)) || ((gi m 24) == (4))) != ((gi m 26) != (0)))), .int .i64 (44)]), .is (.pointer (some ⟨g, 0, none⟩)), .is (.int .i64 (gi m 0)), .is (.bool ((gi m 0) == (8))), .is (.bool ((gi m 0) == (8))), .is (gd ((gi m 0) == (8)) (.bool (((gi m 24) == (3)) || ((gi m 24) == (4))))), .is (gd ((gi m 0) == (8)) (.pointer (some ⟨g, 27, none⟩))), .is (gd ((gi m 0) == (8)) (.int .i64 (gi m 27))), .is (gd ((gi m 0) == (8)) (.bool ((gi m 27) != (0)))), .is (gd ((gi m 0) == (8)) (.bool ((((gi m 24) == (3)) || ((gi m 24) == (4))) != ((gi m 27) != (0))))), .is (.bool (((gi m 0) == (8)) && ((((gi m 24) == (3)) || ((gi m 24) == (4))) != ((gi m 27) != (0))))), .is (.agg #[.bool (((gi m 0) == (8)) && ((((gi m 24) == (3)) || ((gi m 24) == (4))) != ((gi m 27) != (0)))), .int .i64 (99)]), .is (.pointer (some ⟨g, 0, none⟩)), .is (.int .i64 (gi m 0)), .is (.bool ((gi m 0) == (8))), .is (.bool ((gi m 0) == (8))), .is (gd ((gi m 0) == (8)) (.pointer (some ⟨g, 29, none⟩))), .is (gd ((gi m 0) == (8)) (.int .i64 (gi m 29))), .is (gd ((gi m 0) == (8)) (.pointer (some ⟨g, 28, none⟩))), .is (gd ((gi m 0) == (8)) (.int .i64 (gi m 28))), .is (gd ((gi m 0) == (8)) (.bool (decide ((gi m 28) < (gi m 29))))), .is (.bool (((gi m 0) == (8)) && (decide ((gi m 28) < (gi m 29))))), .is (.agg #[.bool (((gi m 0) == (8)) && (decide ((gi m 28) < (gi m 29)))), .int .i64 (111)]), .is (.pointer (some ⟨g, 0, none⟩)), .is (.int .i64 (gi m 0)), .is (.bool ((gi m 0) == (8))), .is (.bool ((gi m 0) == (8))), .is (gd ((gi m 0) == (8)) (.pointer (some ⟨g, 30, none⟩))), .is (gd ((gi m 0) == (8)) (.int .i64 (gi m 30))), .is (gd ((gi m 0) == (8)) (.pointer (some ⟨g, 28, none⟩))), .is (gd ((gi m 0) == (8)) (.int .i64 (gi m 28))), .is (gd ((gi m 0) == (8)) (.bool (decide ((gi m 28) < (gi m 30))))), .is (.bool (((gi m 0) == (8)) && (decide ((gi m 28) < (gi m 30))))), .is (.agg #[.bool (((gi m 0) == (8)) && (decide ((gi m 28) < (gi m 30)))), .int .i64 (110)]), .is (.pointer (some ⟨g, 0, none⟩)), .is (.int .i64 (gi m 0)), .is (.bool ((gi m 0) == (8))), .is (.bool ((gi m 0) == (8))), .is (gd ((gi m 0) == (8)) (.pointer (some ⟨g, 25, none⟩))), .is (gd ((gi m 0) == (8)) (.int .i64 (gi m 25))), .is (gd ((gi m 0) == (8)) (.bool ((gi m 25) == (5)))), .is (gd ((gi m 0) == (8)) (.pointer (some ⟨g, 31, none⟩))), .is (gd ((gi m 0) == (8)) (.int .i64 (gi m 31))), .is (gd ((gi m 0) == (8)) (.bool ((gi m 31) != (0)))), .is (gd ((gi m 0) == (8)) (.bool (((gi m 25) == (5)) != ((gi m 31) != (0))))), .is (.bool (((gi m 0) == (8)) && (((gi m 25) == (5)) != ((gi m 31) != (0))))), .is (.agg #[.bool (((gi m 0) == (8)) && (((gi m 25) == (5)) != ((gi m 31) != (0)))), .int .i64 (432)]), .is (.pointer (some ⟨g, 0, none⟩)), .is (.int .i64 (gi m 0)), .is (.bool ((gi m 0) == (13))), .is (.bool ((gi m 0) == (13))), .is (gd ((gi m 0) == (13)) (.bool ((gi m 34) == (3)))), .is (gd ((gi m 0) == (13)) (.pointer (some ⟨g, 36, none⟩))), .is (gd ((gi m 0) == (13)) (.int .i64 (gi m 36))), .is (gd ((gi m 0) == (13)) (.bool ((gi m 36) != (0)))), .is (gd ((gi m 0) == (13)) (.bool (((gi m 34) == (3)) != ((gi m 36) != (0))))), .is (.bool (((gi m 0) == (13)) && (((gi m 34) == (3)) != ((gi m 36) != (0))))), .is (.agg #[.bool (((gi m 0) == (13)) && (((gi m 34) == (3)) != ((gi m 36) != (0)))), .int .i64 (31)]), .is (.pointer (some ⟨g, 0, none⟩)), .is (.int .i64 (gi m 0)), .is (.bool ((gi m 0) == (13))), .is (.bool ((gi m 0) == (13))), .is (gd ((gi m 0) == (13)) (.bool ((gi m 34) == (3)))), .is (gd ((gi m 0) == (13)) (.pointer (some ⟨g, 37, none⟩))), .is (gd ((gi m 0) == (13)) (.int .i64 (gi m 37))), .is (gd ((gi m 0) == (13)) (.bool ((gi m 37) != (0)))), .is (gd ((gi m 0) == (13)) (.bool (((gi m 34) == (3)) != ((gi m 37) != (0))))), .is (.bool (((gi m 0) == (13)) && (((gi m 34) == (3)) != ((gi m 37) != (0))))), .is (.agg #[.bool (((gi m 0) == (13)) && (((gi m 34) == (3)) != ((gi m 37) != (0)))), .int .i64 (32)]), .is (.pointer (some ⟨g, 0, none⟩)), .is (.int .i64 (gi m 0)), .is (.bool ((gi m 0) == (13))), .is (.bool ((gi m 0) == (13))), .is (gd ((gi m 0) == (13)) (.pointer (some ⟨g, 38, none⟩))), .is (gd ((gi m 0) == (13)) (.int .i64 (gi m 38))), .is (gd ((gi m 0) == (13)) (.pointer (some ⟨g, 39, none⟩))), .is (gd ((gi m 0) == (13)) (.int .i64 (gi m 39))), .is (gd ((gi m 0) == (13)) (.int .i64 ((gi m 38) + (gi m 39)))), .is (gd ((gi m 0) == (13)) (.pointer (some ⟨g, 28, none⟩))), .is (gd ((gi m 0) == (13)) (.int .i64 (gi m 28))), .is (gd ((gi m 0) == (13)) (.bool (decide ((gi m 28) < ((gi m 38) + (gi m 39)))))), .is (.bool (((gi m 0) == (13)) && (decide ((gi m 28) < ((gi m 38) + (gi m 39)))))), .is (.agg #[.bool (((gi m 0) == (13)) && (decide ((gi m 28) < ((gi m 38) + (gi m 39))))), .int .i64 (14)]), pFits m, .is (.int .i64 10), .is (.int .i64 (0))] (by kernel_rfl) ?_ ?_
 · refine And.intro ?_ (And.intro ?_ (And.intro ?_ (And.intro ?_ (And.intro ?_ (And.intro ?_ (And.intro ?_ (And.intro ?_ (And.intro ?_ (And.intro ?_ (And.intro ?_ (And.intro ?_ (And.intro ?_ (And.intro ?_ (And.intro ?_ (And.intro ?_ (And.intro ?_ (And.intro ?_ (And.intro ?_ (And.intro ?_ (And.intro ?_ (And.intro ?_ (And.intro ?_ (And.intro ?_ (And.intro ?_ (And.intro ?_ (And.intro ?_ (And.intro ?_ (And.intro ?_ (And.intro ?_ (And.intro ?_ (And.intro ?_ (And.intro ?_ (And.intro ?_ (And.intro ?_ (And.intro ?_ (And.intro ?_ (And.intro ?_ (And.intro ?_ (And.intro ?_ (And.intro ?_ (And.intro ?_ (And.intro ?_ (And.intro ?_ (And.intro ?_ (And.intro ?_ (And.intro ?_ (And.intro ?_ (And.intro ?_ (And.intro ?_ (And.intro ?_ (And.intro ?_ (And.intro ?_ (And.intro ?_ (And.intro ?_ (And.intro ?_ (And.intro ?_ (And.intro ?_ (And.intro ?_ (And.intro ?_ (And.intro ?_ (And.intro ?_ (And.intro ?_ (And.intro ?_ (And.intro ?_ (And.intro ?_ (And.intro ?_ (And.intro ?_ (And.intro ?_ (And.intro ?_ (And.intro ?_ (And.intro ?_ (And.intro ?_ (And.intro ?_ (And.intro ?_ (And.intro ?_ (And.intro ?_ (And.intro ?_ (And.intro ?_ (And.intro ?_ (And.intro ?_ (And.intro ?_ (And.intro ?_ (And.intro ?_ (And.intro ?_ (And.intro ?_ (And.intro ?_ (And.intro ?_ (And.intro ?_ (And.intro ?_ (And.intro ?_ (And.intro ?_ (And.intro ?_ (And.intro ?_ (And.intro ?_ (And.intro ?_ (And.intro ?_ (And.intro ?_ (And.intro ?_ (And.intro ?_ (And.intro ?_ (And.intro ?_ (And.intro ?_ (And.intro ?_ (And.intro ?_ (And.intro ?_ (And.intro ?_ (And.intro ?_ (And.intro ?_ (And.intro ?_ (And.intro ?_ (And.intro ?_ (And.intro ?_ (And.intro ?_ (And.intro ?_ (And.intro ?_ (And.intro ?_ (And.intro ?_ (And.intro ?_ (And.intro ?_ (And.intro ?_ (True.intro)))))))))))))))))))))))))))))))))))))))))))))))))))))))))))))))))))))))))))))))))))))))))))))))))))))))))))))))))))))))))
   · intro ρ w' hE hB hD; have e1 : ρ (.tmp 1) = _ := hB (.tmp 1) rfl; clear hB hD; refine .inl ⟨rfl, ?_⟩; unfold Gives; go_simp; first | done | exact xr0 | exact xr1
   · intro ρ w' hE hB hD; have q0 := HC.out w' hE 6 (by decide); rw [cell6 hm] at q0; have e27 : ρ (.tmp 27) = .pointer (some ⟨g, 6, none⟩) := hD 0 27 rfl rfl; clear hB hD; refine .inl ⟨rfl, ?_⟩; unfold Gives; go_simp; first | done | exact xr0 | exact xr1
   · intro ρ w' hE hB hD; have ec := ctK hB
     have e28 : ρ (.tmp 28) = .int .i64 (gi m 6) := hD 1 28 rfl rfl; clear hB hD; refine .inl ⟨rfl, ?_⟩; unfold Gives; go_simp; first | done | exact xr0 | exact xr1
   · intro ρ w' hE hB hD; have e29 : ρ (.tmp 29) = .bool ((gi m 6) != (0)) := hD 2 29 rfl rfl; clear hB hD; refine .inl ⟨rfl, ?_⟩; unfold Gives; go_simp; first | done | exact xr0 | exact xr1
   · intro ρ w' hE hB hD; have e1 : ρ (.tmp 1) = _ := hB (.tmp 1) rfl; have e30 : ρ (.tmp 30) = .bool ((gi m 6) != (0)) := hD 3 30 rfl rfl; clear hB hD; rcases Bool.eq_false_or_eq_true ((gi m 6) != (0)) with hc | hc
     case inr => exact .inr ⟨(wanted_t rfl rfl e30).trans hc, by show undef = gd _ _; rw [hc, gd_false]⟩
     simp only [hc, gd_true] at e1 ⊢; refine .inl ⟨(wanted_t rfl rfl e30).trans hc, ?_⟩; unfold Gives; go_simp; first | done | exact xr0 | exact xr1
   · intro ρ w' hE hB hD; have q0 := HC.out w' hE 4 (by decide); rw [cell4 hm] at q0; have e30 : ρ (.tmp 30) = .bool ((gi m 6) != (0)) := hD 3 30 rfl rfl; have e31 : ρ (.tmp 31) = gd ((gi m 6) != (0)) (.pointer (some ⟨g, 4, none⟩)) := hD 4 31 rfl rfl; clear hB hD; rcases Bool.eq_false_or_eq_true ((gi m 6) != (0)) with hc | hc
     case inr => exact .inr ⟨(wanted_t rfl rfl e30).trans hc, by show undef = gd _ _; rw [hc, gd_false]⟩
     simp only [hc, gd_true] at e31 ⊢; refine .inl ⟨(wanted_t rfl rfl e30).trans hc, ?_⟩; unfold Gives; go_simp; first | done | exact xr0 | exact xr1
   · intro ρ w' hE hB hD; have e30 : ρ (.tmp 30) = .bool ((gi m 6) != (0)) := hD 3 30 rfl rfl; have e32 : ρ (.tmp 32) = gd ((gi m 6) != (0)) (.bool (gb m 4)) := hD 5 32 rfl rfl; clear hB hD; rcases Bool.eq_false_or_eq_true ((gi m 6) != (0)) with hc | hc
     case inr => exact .inr ⟨(wanted_t rfl rfl e30).trans hc, by show undef = gd _ _; rw [hc, gd_false]⟩
     simp only [hc, gd_true] at e32 ⊢; refine .inl ⟨(wanted_t rfl rfl e30).trans hc, ?_⟩; unfold Gives; go_simp; first | done | exact xr0 | exact xr1
   · intro ρ w' hE hB hD; have ec := ctK hB
     have e30 : ρ (.tmp 30) = .bool ((gi m 6) != (0)) := hD 3 30 rfl rfl; have e33 : ρ (.tmp 33) = gd ((gi m 6) != (0)) (.bool (!(gb m 4))) := hD 6 33 rfl rfl; clear hB hD; refine .inl ⟨rfl, ?_⟩; unfold Gives; rcases Bool.eq_false_or_eq_true ((gi m 6) != (0)) with hc | hc
     all_goals
      simp only [hc, gd_true, gd_false, Bool.not_true, Bool.not_false, Bool.true_or, Bool.false_or, Bool.true_and, Bool.false_and, Bool.or_true, Bool.and_true] at e30 e33 ⊢; clear hc; go_simp; first | done | exact xr0 | exact xr1
   · intro ρ w' hE hB hD; have ec := ctK hB
     have e34 : ρ (.tmp 34) = .bool (((gi m 6) != (0)) && (!(gb m 4))) := hD 7 34 rfl rfl; clear hB hD; refine .inl ⟨rfl, ?_⟩; unfold Gives; go_simp; first | done | exact xr0 | exact xr1
   · intro ρ w' hE hB hD; have e1 : ρ (.tmp 1) = _ := hB (.tmp 1) rfl; clear hB hD; refine .inl ⟨rfl, ?_⟩; unfold Gives; go_simp; first | done | exact xr0 | exact xr1
   · intro ρ w' hE hB hD; have q0 := HC.out w' hE 0 (by decide); rw [cell0 hm] at q0; have e36 : ρ (.tmp 36) = .pointer (some ⟨g, 0, none⟩) := hD 9 36 rfl rfl; clear hB hD; refine .inl ⟨rfl, ?_⟩; unfold Gives; go_simp; first | done | exact xr0 | exact xr1
   · intro ρ w' hE hB hD; have ec := ctK hB
     have e37 : ρ (.tmp 37) = .int .i64 (gi m 0) := hD 10 37 rfl rfl; clear hB hD; refine .inl ⟨rfl, ?_⟩; unfold Gives; go_simp; first | done | exact xr0 | exact xr1
   · intro ρ w' hE hB hD; have e38 : ρ (.tmp 38) = .bool ((gi m 0) == (3)) := hD 11 38 rfl rfl; clear hB hD; refine .inl ⟨rfl, ?_⟩; unfold Gives; go_simp; first | done | exact xr0 | exact xr1
   · intro ρ w' hE hB hD; have e1 : ρ (.tmp 1) = _ := hB (.tmp 1) rfl; have e39 : ρ (.tmp 39) = .bool ((gi m 0) == (3)) := hD 12 39 rfl rfl; clear hB hD; rcases Bool.eq_false_or_eq_true ((gi m 0) == (3)) with hc | hc
     case inr => exact .inr ⟨(wanted_t rfl rfl e39).trans hc, by show undef = gd _ _; rw [hc, gd_false]⟩
     simp only [hc, gd_true] at e1 ⊢; refine .inl ⟨(wanted_t rfl rfl e39).trans hc, ?_⟩; unfold Gives; go_simp; first | done | exact xr0 | exact xr1
   · intro ρ w' hE hB hD; have q0 := HC.out w' hE 11 (by decide); rw [cell11 hm] at q0; have e39 : ρ (.tmp 39) = .bool ((gi m 0) == (3)) := hD 12 39 rfl rfl; have e40 : ρ (.tmp 40) = gd ((gi m 0) == (3)) (.pointer (some ⟨g, 11, none⟩)) := hD 13 40 rfl rfl; clear hB hD; rcases Bool.eq_false_or_eq_true ((gi m 0) == (3)) with hc | hc
     case inr => exact .inr ⟨(wanted_t rfl rfl e39).trans hc, by show undef = gd _ _; rw [hc, gd_false]⟩
     simp only [hc, gd_true] at e40 ⊢; refine .inl ⟨(wanted_t rfl rfl e39).trans hc, ?_⟩; unfold Gives; go_simp; first | done | exact xr0 | exact xr1
   · intro ρ w' hE hB hD; have ec := ctK hB
     have e39 : ρ (.tmp 39) = .bool ((gi m 0) == (3)) := hD 12 39 rfl rfl; have e41 : ρ (.tmp 41) = gd ((gi m 0) == (3)) (.int .i64 (gi m 11)) := hD 14 41 rfl rfl; clear hB hD; rcases Bool.eq_false_or_eq_true ((gi m 0) == (3)) with hc | hc
     case inr => exact .inr ⟨(wanted_t rfl rfl e39).trans hc, by show undef = gd _ _; rw [hc, gd_false]⟩
     simp only [hc, gd_true] at e41 ⊢; refine .inl ⟨(wanted_t rfl rfl e39).trans hc, ?_⟩; unfold Gives; go_simp; first | done | exact xr0 | exact xr1
   · intro ρ w' hE hB hD; have ec := ctK hB
     have e39 : ρ (.tmp 39) = .bool ((gi m 0) == (3)) := hD 12 39 rfl rfl; have e42 : ρ (.tmp 42) = gd ((gi m 0) == (3)) (.bool ((gi m 11) != (0))) := hD 15 42 rfl rfl; clear hB hD; refine .inl ⟨rfl, ?_⟩; unfold Gives; rcases Bool.eq_false_or_eq_true ((gi m 0) == (3)) with hc | hc
     all_goals
      simp only [hc, gd_true, gd_false, Bool.not_true, Bool.not_false, Bool.true_or, Bool.false_or, Bool.true_and, Bool.false_and, Bool.or_true, Bool.and_true] at e39 e42 ⊢; clear hc; go_simp; first | done | exact xr0 | exact xr1
   · intro ρ w' hE hB hD; have e43 : ρ (.tmp 43) = .bool (((gi m 0) == (3)) && ((gi m 11) != (0))) := hD 16 43 rfl rfl; clear hB hD; refine .inl ⟨rfl, ?_⟩; unfold Gives; go_simp; first | done | exact xr0 | exact xr1
   · intro ρ w' hE hB hD; have e1 : ρ (.tmp 1) = _ := hB (.tmp 1) rfl; have e44 : ρ (.tmp 44) = .bool (((gi m 0) == (3)) && ((gi m 11) != (0))) := hD 17 44 rfl rfl; clear hB hD; rcases Bool.eq_false_or_eq_true (((gi m 0) == (3)) && ((gi m 11) != (0))) with hc | hc
     case inr => exact .inr ⟨(wanted_t rfl rfl e44).trans hc, by show undef = gd _ _; rw [hc, gd_false]⟩
     simp only [hc, gd_true] at e1 ⊢; refine .inl ⟨(wanted_t rfl rfl e44).trans hc, ?_⟩; unfold Gives; go_simp; first | done | exact xr0 | exact xr1
   · intro ρ w' hE hB hD; have q0 := HC.out w' hE 11 (by decide); rw [cell11 hm] at q0; have e44 : ρ (.tmp 44) = .bool (((gi m 0) == (3)) && ((gi m 11) != (0))) := hD 17 44 rfl rfl; have e45 : ρ (.tmp 45) = gd (((gi m 0) == (3)) && ((gi m 11) != (0))) (.pointer (some ⟨g, 11, none⟩)) := hD 18 45 rfl rfl; clear hB hD; rcases Bool.eq_false_or_eq_true (((gi m 0) == (3)) && ((gi m 11) != (0))) with hc | hc
     case inr => exact .inr ⟨(wanted_t rfl rfl e44).trans hc, by show undef = gd _ _; rw [hc, gd_false]⟩
     simp only [hc, gd_true] at e45 ⊢; refine .inl ⟨(wanted_t rfl rfl e44).trans hc, ?_⟩; unfold Gives; go_simp; first | done | exact xr0 | exact xr1
   · intro ρ w' hE hB hD; have e1 : ρ (.tmp 1) = _ := hB (.tmp 1) rfl; have e44 : ρ (.tmp 44) = .bool (((gi m 0) == (3)) && ((gi m 11) != (0))) := hD 17 44 rfl rfl; clear hB hD; rcases Bool.eq_false_or_eq_true (((gi m 0) == (3)) && ((gi m 11) != (0))) with hc | hc
     case inr => exact .inr ⟨(wanted_t rfl rfl e44).trans hc, by show undef = gd _ _; rw [hc, gd_false]⟩
     simp only [hc, gd_true] at e1 ⊢; refine .inl ⟨(wanted_t rfl rfl e44).trans hc, ?_⟩; unfold Gives; go_simp; first | done | exact xr0 | exact xr1
   · intro ρ w' hE hB hD; have q0 := HC.out w' hE 10 (by decide); rw [cell10 hm] at q0; have e44 : ρ (.tmp 44) = .bool (((gi m 0) == (3)) && ((gi m 11) != (0))) := hD 17 44 rfl rfl; have e47 : ρ (.tmp 47) = gd (((gi m 0) == (3)) && ((gi m 11) != (0))) (.pointer (some ⟨g, 10, none⟩)) := hD 20 47 rfl rfl; clear hB hD; rcases Bool.eq_false_or_eq_true (((gi m 0) == (3)) && ((gi m 11) != (0))) with hc | hc
     case inr => exact .inr ⟨(wanted_t rfl rfl e44).trans hc, by show undef = gd _ _; rw [hc, gd_false]⟩
     simp only [hc, gd_true] at e47 ⊢; refine .inl ⟨(wanted_t rfl rfl e44).trans hc, ?_⟩; unfold Gives; go_simp; first | done | exact xr0 | exact xr1
   · intro ρ w' hE hB hD; have e44 : ρ (.tmp 44) = .bool (((gi m 0) == (3)) && ((gi m 11) != (0))) := hD 17 44 rfl rfl; have e46 : ρ (.tmp 46) = gd (((gi m 0) == (3)) && ((gi m 11) != (0))) (.int .i64 (gi m 11)) := hD 19 46 rfl rfl; have e48 : ρ (.tmp 48) = gd (((gi m 0) == (3)) && ((gi m 11) != (0))) (.int .i64 (gi m 10)) := hD 21 48 rfl rfl; clear hB hD; rcases Bool.eq_false_or_eq_true (((gi m 0) == (3)) && ((gi m 11) != (0))) with hc | hc
     case inr => exact .inr ⟨(wanted_t rfl rfl e44).trans hc, by show undef = gd _ _; rw [hc, gd_false]⟩
     simp only [hc, gd_true] at e46 e48 ⊢; refine .inl ⟨(wanted_t rfl rfl e44).trans hc, ?_⟩; unfold Gives; go_simp; first | done | exact xr0 | exact xr1
   · intro ρ w' hE hB hD; have ec := ctK hB
     have e44 : ρ (.tmp 44) = .bool (((gi m 0) == (3)) && ((gi m 11) != (0))) := hD 17 44 rfl rfl; have e49 : ρ (.tmp 49) = gd (((gi m 0) == (3)) && ((gi m 11) != (0))) (.bool (decide ((gi m 11) < (gi m 10)))) := hD 22 49 rfl rfl; clear hB hD; refine .inl ⟨rfl, ?_⟩; unfold Gives; rcases Bool.eq_false_or_eq_true (((gi m 0) == (3)) && ((gi m 11) != (0))) with hc | hc
     all_goals
      simp only [hc, gd_true, gd_false, Bool.not_true, Bool.not_false, Bool.true_or, Bool.false_or, Bool.true_and, Bool.false_and, Bool.or_true, Bool.and_true] at e44 e49 ⊢; clear hc; go_simp; first | done | exact xr0 | exact xr1
   · intro ρ w' hE hB hD; have ec := ctK hB
     have e50 : ρ (.tmp 50) = .bool ((((gi m 0) == (3)) && ((gi m 11) != (0))) && (decide ((gi m 11) < (gi m 10)))) := hD 23 50 rfl rfl; clear hB hD; refine .inl ⟨rfl, ?_⟩; unfold Gives; go_simp; first | done | exact xr0 | exact xr1
   · intro ρ w' hE hB hD; have e1 : ρ (.tmp 1) = _ := hB (.tmp 1) rfl; clear hB hD; refine .inl ⟨rfl, ?_⟩; unfold Gives; go_simp; first | done | exact xr0 | exact xr1
   · intro ρ w' hE hB hD; have q0 := HC.out w' hE 0 (by decide); rw [cell0 hm] at q0; have e52 : ρ (.tmp 52) = .pointer (some ⟨g, 0, none⟩) := hD 25 52 rfl rfl; clear hB hD; refine .inl ⟨rfl, ?_⟩; unfold Gives; go_simp; first | done | exact xr0 | exact xr1
   · intro ρ w' hE hB hD; have ec := ctK hB
     have e53 : ρ (.tmp 53) = .int .i64 (gi m 0) := hD 26 53 rfl rfl; clear hB hD; refine .inl ⟨rfl, ?_⟩; unfold Gives; go_simp; first | done | exact xr0 | exact xr1
   · intro ρ w' hE hB hD; have e54 : ρ (.tmp 54) = .bool ((gi m 0) == (8)) := hD 27 54 rfl rfl; clear hB hD; refine .inl ⟨rfl, ?_⟩; unfold Gives; go_simp; first | done | exact xr0 | exact xr1
   · intro ρ w' hE hB hD; have e3 : ρ (.tmp 3) = _ := hB (.tmp 3) rfl; have e55 : ρ (.tmp 55) = .bool ((gi m 0) == (8)) := hD 28 55 rfl rfl; clear hB hD; rcases Bool.eq_false_or_eq_true ((gi m 0) == (8)) with hc | hc
     case inr => exact .inr ⟨(wanted_t rfl rfl e55).trans hc, by show undef = gd _ _; rw [hc, gd_false]⟩
     simp only [hc, gd_true] at e3 ⊢; refine .inl ⟨(wanted_t rfl rfl e55).trans hc, ?_⟩; unfold Gives; go_simp; first | done | exact xr0 | exact xr1
   · intro ρ w' hE hB hD; have e1 : ρ (.tmp 1) = _ := hB (.tmp 1) rfl; have e55 : ρ (.tmp 55) = .bool ((gi m 0) == (8)) := hD 28 55 rfl rfl; clear hB hD; rcases Bool.eq_false_or_eq_true ((gi m 0) == (8)) with hc | hc
     case inr => exact .inr ⟨(wanted_t rfl rfl e55).trans hc, by show undef = gd _ _; rw [hc, gd_false]⟩
     simp only [hc, gd_true] at e1 ⊢; refine .inl ⟨(wanted_t rfl rfl e55).trans hc, ?_⟩; unfold Gives; go_simp; first | done | exact xr0 | exact xr1
   · intro ρ w' hE hB hD; have q0 := HC.out w' hE 26 (by decide); rw [cell26 hm] at q0; have e55 : ρ (.tmp 55) = .bool ((gi m 0) == (8)) := hD 28 55 rfl rfl; have e57 : ρ (.tmp 57) = gd ((gi m 0) == (8)) (.pointer (some ⟨g, 26, none⟩)) := hD 30 57 rfl rfl; clear hB hD; rcases Bool.eq_false_or_eq_true ((gi m 0) == (8)) with hc | hc
     case inr => exact .inr ⟨(wanted_t rfl rfl e55).trans hc, by show undef = gd _ _; rw [hc, gd_false]⟩
     simp only [hc, gd_true] at e57 ⊢; refine .inl ⟨(wanted_t rfl rfl e55).trans hc, ?_⟩; unfold Gives; go_simp; first | done | exact xr0 | exact xr1
   · intro ρ w' hE hB hD; have ec := ctK hB
     have e55 : ρ (.tmp 55) = .bool ((gi m 0) == (8)) := hD 28 55 rfl rfl; have e58 : ρ (.tmp 58) = gd ((gi m 0) == (8)) (.int .i64 (gi m 26)) := hD 31 58 rfl rfl; clear hB hD; rcases Bool.eq_false_or_eq_true ((gi m 0) == (8)) with hc | hc
     case inr => exact .inr ⟨(wanted_t rfl rfl e55).trans hc, by show undef = gd _ _; rw [hc, gd_false]⟩
     simp only [hc, gd_true] at e58 ⊢; refine .inl ⟨(wanted_t rfl rfl e55).trans hc, ?_⟩; unfold Gives; go_simp; first | done | exact xr0 | exact xr1
   · intro ρ w' hE hB hD; have e55 : ρ (.tmp 55) = .bool ((gi m 0) == (8)) := hD 28 55 rfl rfl; have e56 : ρ (.tmp 56) = gd ((gi m 0) == (8)) (.bool (((gi m 24) == (1)) || ((gi m 24) == (4)))) := hD 29 56 rfl rfl; have e59 : ρ (.tmp 59) = gd ((gi m 0) == (8)) (.bool ((gi m 26) != (0))) := hD 32 59 rfl rfl; clear hB hD; rcases Bool.eq_false_or_eq_true ((gi m 0) == (8)) with hc | hc
     case inr => exact .inr ⟨(wanted_t rfl rfl e55).trans hc, by show undef = gd _ _; rw [hc, gd_false]⟩
     simp only [hc, gd_true] at e56 e59 ⊢; refine .inl ⟨(wanted_t rfl rfl e55).trans hc, ?_⟩; unfold Gives; go_simp; first | done | exact xr0 | exact xr1
   · intro ρ w' hE hB hD; have ec := ctK hB
     have e55 : ρ (.tmp 55) = .bool ((gi m 0) == (8)) := hD 28 55 rfl rfl; have e60 : ρ (.tmp 60) = gd ((gi m 0) == (8)) (.bool ((((gi m 24) == (1)) || ((gi m 24) == (4))) != ((gi m 26) != (0)))) := hD 33 60 rfl rfl; clear hB hD; refine .inl ⟨rfl, ?_⟩; unfold Gives; rcases Bool.eq_false_or_eq_true ((gi m 0) == (8)) with hc | hc
     all_goals
      simp only [hc, gd_true, gd_false, Bool.not_true, Bool.not_false, Bool.true_or, Bool.false_or, Bool.true_and, Bool.false_and, Bool.or_true, Bool.and_true] at e55 e60 ⊢; clear hc; go_simp; first | done | exact xr0 | exact xr1
   · intro ρ w' hE hB hD; have ec := ctK hB
     have e61 : ρ (.tmp 61) = .bool (((gi m 0) == (8)) && ((((gi m 24) == (1)) || ((gi m 24) == (4))) != ((gi m 26) != (0)))) := hD 34 61 rfl rfl; clear hB hD; refine .inl ⟨rfl, ?_⟩; unfold Gives; go_simp; first | done | exact xr0 | exact xr1
   · intro ρ w' hE hB hD; have e1 : ρ (.tmp 1) = _ := hB (.tmp 1) rfl; clear hB hD; refine .inl ⟨rfl, ?_⟩; unfold Gives; go_simp; first | done | exact xr0 | exact xr1
   · intro ρ w' hE hB hD; have q0 := HC.out w' hE 0 (by decide); rw [cell0 hm] at q0; have e63 : ρ (.tmp 63) = .pointer (some ⟨g, 0, none⟩) := hD 36 63 rfl rfl; clear hB hD; refine .inl ⟨rfl, ?_⟩; unfold Gives; go_simp; first | done | exact xr0 | exact xr1
   · intro ρ w' hE hB hD; have ec := ctK hB
     have e64 : ρ (.tmp 64) = .int .i64 (gi m 0) := hD 37 64 rfl rfl; clear hB hD; refine .inl ⟨rfl, ?_⟩; unfold Gives; go_simp; first | done | exact xr0 | exact xr1
   · intro ρ w' hE hB hD; have e65 : ρ (.tmp 65) = .bool ((gi m 0) == (8)) := hD 38 65 rfl rfl; clear hB hD; refine .inl ⟨rfl, ?_⟩; unfold Gives; go_simp; first | done | exact xr0 | exact xr1
   · intro ρ w' hE hB hD; have e4 : ρ (.tmp 4) = _ := hB (.tmp 4) rfl; have e66 : ρ (.tmp 66) = .bool ((gi m 0) == (8)) := hD 39 66 rfl rfl; clear hB hD; rcases Bool.eq_false_or_eq_true ((gi m 0) == (8)) with hc | hc
     case inr => exact .inr ⟨(wanted_t rfl rfl e66).trans hc, by show undef = gd _ _; rw [hc, gd_false]⟩
     simp only [hc, gd_true] at e4 ⊢; refine .inl ⟨(wanted_t rfl rfl e66).trans hc, ?_⟩; unfold Gives; go_simp; first | done | exact xr0 | exact xr1
   · intro ρ w' hE hB hD; have e1 : ρ (.tmp 1) = _ := hB (.tmp 1) rfl; have e66 : ρ (.tmp 66) = .bool ((gi m 0) == (8)) := hD 39 66 rfl rfl; clear hB hD; rcases Bool.eq_false_or_eq_true ((gi m 0) == (8)) with hc | hc
     case inr => exact .inr ⟨(wanted_t rfl rfl e66).trans hc, by show undef = gd _ _; rw [hc, gd_false]⟩
     simp only [hc, gd_true] at e1 ⊢; refine .inl ⟨(wanted_t rfl rfl e66).trans hc, ?_⟩; unfold Gives; go_simp; first | done | exact xr0 | exact xr1
   · intro ρ w' hE hB hD; have q0 := HC.out w' hE 27 (by decide); rw [cell27 hm] at q0; have e66 : ρ (.tmp 66) = .bool ((gi m 0) == (8)) := hD 39 66 rfl rfl; have e68 : ρ (.tmp 68) = gd ((gi m 0) == (8)) (.pointer (some ⟨g, 27, none⟩)) := hD 41 68 rfl rfl; clear hB hD; rcases Bool.eq_false_or_eq_true ((gi m 0) == (8)) with hc | hc
     case inr => exact .inr ⟨(wanted_t rfl rfl e66).trans hc, by show undef = gd _ _; rw [hc, gd_false]⟩
     simp only [hc, gd_true] at e68 ⊢; refine .inl ⟨(wanted_t rfl rfl e66).trans hc, ?_⟩; unfold Gives; go_simp; first | done | exact xr0 | exact xr1
   · intro ρ w' hE hB hD; have ec := ctK hB
     have e66 : ρ (.tmp 66) = .bool ((gi m 0) == (8)) := hD 39 66 rfl rfl; have e69 : ρ (.tmp 69) = gd ((gi m 0) == (8)) (.int .i64 (gi m 27)) := hD 42 69 rfl rfl; clear hB hD; rcases Bool.eq_false_or_eq_true ((gi m 0) == (8)) with hc | hc
     case inr => exact .inr ⟨(wanted_t rfl rfl e66).trans hc, by show undef = gd _ _; rw [hc, gd_false]⟩
     simp only [hc, gd_true] at e69 ⊢; refine .inl ⟨(wanted_t rfl rfl e66).trans hc, ?_⟩; unfold Gives; go_simp; first | done | exact xr0 | exact xr1
   · intro ρ w' hE hB hD; have e66 : ρ (.tmp 66) = .bool ((gi m 0) == (8)) := hD 39 66 rfl rfl; have e67 : ρ (.tmp 67) = gd ((gi m 0) == (8)) (.bool (((gi m 24) == (3)) || ((gi m 24) == (4)))) := hD 40 67 rfl rfl; have e70 : ρ (.tmp 70) = gd ((gi m 0) == (8)) (.bool ((gi m 27) != (0))) := hD 43 70 rfl rfl; clear hB hD; rcases Bool.eq_false_or_eq_true ((gi m 0) == (8)) with hc | hc
     case inr => exact .inr ⟨(wanted_t rfl rfl e66).trans hc, by show undef = gd _ _; rw [hc, gd_false]⟩
     simp only [hc, gd_true] at e67 e70 ⊢; refine .inl ⟨(wanted_t rfl rfl e66).trans hc, ?_⟩; unfold Gives; go_simp; first | done | exact xr0 | exact xr1
   · intro ρ w' hE hB hD; have ec := ctK hB
     have e66 : ρ (.tmp 66) = .bool ((gi m 0) == (8)) := hD 39 66 rfl rfl; have e71 : ρ (.tmp 71) = gd ((gi m 0) == (8)) (.bool ((((gi m 24) == (3)) || ((gi m 24) == (4))) != ((gi m 27) != (0)))) := hD 44 71 rfl rfl; clear hB hD; refine .inl ⟨rfl, ?_⟩; unfold Gives; rcases Bool.eq_false_or_eq_true ((gi m 0) == (8)) with hc | hc
     all_goals
      simp only [hc, gd_true, gd_false, Bool.not_true, Bool.not_false, Bool.true_or, Bool.false_or, Bool.true_and, Bool.false_and, Bool.or_true, Bool.and_true] at e66 e71 ⊢; clear hc; go_simp; first | done | exact xr0 | exact xr1
   · intro ρ w' hE hB hD; have ec := ctK hB
     have e72 : ρ (.tmp 72) = .bool (((gi m 0) == (8)) && ((((gi m 24) == (3)) || ((gi m 24) == (4))) != ((gi m 27) != (0)))) := hD 45 72 rfl rfl; clear hB hD; refine .inl ⟨rfl, ?_⟩; unfold Gives; go_simp; first | done | exact xr0 | exact xr1
   · intro ρ w' hE hB hD; have e1 : ρ (.tmp 1) = _ := hB (.tmp 1) rfl; clear hB hD; refine .inl ⟨rfl, ?_⟩; unfold Gives; go_simp; first | done | exact xr0 | exact xr1
   · intro ρ w' hE hB hD; have q0 := HC.out w' hE 0 (by decide); rw [cell0 hm] at q0; have e74 : ρ (.tmp 74) = .pointer (some ⟨g, 0, none⟩) := hD 47 74 rfl rfl; clear hB hD; refine .inl ⟨rfl, ?_⟩; unfold Gives; go_simp; first | done | exact xr0 | exact xr1
   · intro ρ w' hE hB hD; have ec := ctK hB
     have e75 : ρ (.tmp 75) = .int .i64 (gi m 0) := hD 48 75 rfl rfl; clear hB hD; refine .inl ⟨rfl, ?_⟩; unfold Gives; go_simp; first | done | exact xr0 | exact xr1
   · intro ρ w' hE hB hD; have e76 : ρ (.tmp 76) = .bool ((gi m 0) == (8)) := hD 49 76 rfl rfl; clear hB hD; refine .inl ⟨rfl, ?_⟩; unfold Gives; go_simp; first | done | exact xr0 | exact xr1
   · intro ρ w' hE hB hD; have e1 : ρ (.tmp 1) = _ := hB (.tmp 1) rfl; have e77 : ρ (.tmp 77) = .bool ((gi m 0) == (8)) := hD 50 77 rfl rfl; clear hB hD; rcases Bool.eq_false_or_eq_true ((gi m 0) == (8)) with hc | hc
     case inr => exact .inr ⟨(wanted_t rfl rfl e77).trans hc, by show undef = gd _ _; rw [hc, gd_false]⟩
     simp only [hc, gd_true] at e1 ⊢; refine .inl ⟨(wanted_t rfl rfl e77).trans hc, ?_⟩; unfold Gives; go_simp; first | done | exact xr0 | exact xr1
   · intro ρ w' hE hB hD; have q0 := HC.out w' hE 29 (by decide); rw [cell29 hm] at q0; have e77 : ρ (.tmp 77) = .bool ((gi m 0) == (8)) := hD 50 77 rfl rfl; have e78 : ρ (.tmp 78) = gd ((gi m 0) == (8)) (.pointer (some ⟨g, 29, none⟩)) := hD 51 78 rfl rfl; clear hB hD; rcases Bool.eq_false_or_eq_true ((gi m 0) == (8)) with hc | hc
     case inr => exact .inr ⟨(wanted_t rfl rfl e77).trans hc, by show undef = gd _ _; rw [hc, gd_false]⟩
     simp only [hc, gd_true] at e78 ⊢; refine .inl ⟨(wanted_t rfl rfl e77).trans hc, ?_⟩; unfold Gives; go_simp; first | done | exact xr0 | exact xr1
   · intro ρ w' hE hB hD; have e1 : ρ (.tmp 1) = _ := hB (.tmp 1) rfl; have e77 : ρ (.tmp 77) = .bool ((gi m 0) == (8)) := hD 50 77 rfl rfl; clear hB hD; rcases Bool.eq_false_or_eq_true ((gi m 0) == (8)) with hc | hc
     case inr => exact .inr ⟨(wanted_t rfl rfl e77).trans hc, by show undef = gd _ _; rw [hc, gd_false]⟩
     simp only [hc, gd_true] at e1 ⊢; refine .inl ⟨(wanted_t rfl rfl e77).trans hc, ?_⟩; unfold Gives; go_simp; first | done | exact xr0 | exact xr1
   · intro ρ w' hE hB hD; have q0 := HC.out w' hE 28 (by decide); rw [cell28 hm] at q0; have e77 : ρ (.tmp 77) = .bool ((gi m 0) == (8)) := hD 50 77 rfl rfl; have e80 : ρ (.tmp 80) = gd ((gi m 0) == (8)) (.pointer (some ⟨g, 28, none⟩)) := hD 53 80 rfl rfl; clear hB hD; rcases Bool.eq_false_or_eq_true ((gi m 0) == (8)) with hc | hc
     case inr => exact .inr ⟨(wanted_t rfl rfl e77).trans hc, by show undef = gd _ _; rw [hc, gd_false]⟩
     simp only [hc, gd_true] at e80 ⊢; refine .inl ⟨(wanted_t rfl rfl e77).trans hc, ?_⟩; unfold Gives; go_simp; first | done | exact xr0 | exact xr1
   · intro ρ w' hE hB hD; have e77 : ρ (.tmp 77) = .bool ((gi m 0) == (8)) := hD 50 77 rfl rfl; have e79 : ρ (.tmp 79) = gd ((gi m 0) == (8)) (.int .i64 (gi m 29)) := hD 52 79 rfl rfl; have e81 : ρ (.tmp 81) = gd ((gi m 0) == (8)) (.int .i64 (gi m 28)) := hD 54 81 rfl rfl; clear hB hD; rcases Bool.eq_false_or_eq_true ((gi m 0) == (8)) with hc | hc
     case inr => exact .inr ⟨(wanted_t rfl rfl e77).trans hc, by show undef = gd _ _; rw [hc, gd_false]⟩
     simp only [hc, gd_true] at e79 e81 ⊢; refine .inl ⟨(wanted_t rfl rfl e77).trans hc, ?_⟩; unfold Gives; go_simp; first | done | exact xr0 | exact xr1
   · intro ρ w' hE hB hD; have ec := ctK hB
     have e77 : ρ (.tmp 77) = .bool ((gi m 0) == (8)) := hD 50 77 rfl rfl; have e82 : ρ (.tmp 82) = gd ((gi m 0) == (8)) (.bool (decide ((gi m 28) < (gi m 29)))) := hD 55 82 rfl rfl; clear hB hD; refine .inl ⟨rfl, ?_⟩; unfold Gives; rcases Bool.eq_false_or_eq_true ((gi m 0) == (8)) with hc | hc
     all_goals
      simp only [hc, gd_true, gd_false, Bool.not_true, Bool.not_false, Bool.true_or, Bool.false_or, Bool.true_and, Bool.false_and, Bool.or_true, Bool.and_true] at e77 e82 ⊢; clear hc; go_simp; first | done | exact xr0 | exact xr1
   · intro ρ w' hE hB hD; have ec := ctK hB
     have e83 : ρ (.tmp 83) = .bool (((gi m 0) == (8)) && (decide ((gi m 28) < (gi m 29)))) := hD 56 83 rfl rfl; clear hB hD; refine .inl ⟨rfl, ?_⟩; unfold Gives; go_simp; first | done | exact xr0 | exact xr1
   · intro ρ w' hE hB hD; have e1 : ρ (.tmp 1) = _ := hB (.tmp 1) rfl; clear hB hD; refine .inl ⟨rfl, ?_⟩; unfold Gives; go_simp; first | done | exact xr0 | exact xr1
   · intro ρ w' hE hB hD; have q0 := HC.out w' hE 0 (by decide); rw [cell0 hm] at q0; have e85 : ρ (.tmp 85) = .pointer (some ⟨g, 0, none⟩) := hD 58 85 rfl rfl; clear hB hD; refine .inl ⟨rfl, ?_⟩; unfold Gives; go_simp; first | done | exact xr0 | exact xr1
   · intro ρ w' hE hB hD; have ec := ctK hB
     have e86 : ρ (.tmp 86) = .int .i64 (gi m 0) := hD 59 86 rfl rfl; clear hB hD; refine .inl ⟨rfl, ?_⟩; unfold Gives; go_simp; first | done | exact xr0 | exact xr1
   · intro ρ w' hE hB hD; have e87 : ρ (.tmp 87) = .bool ((gi m 0) == (8)) := hD 60 87 rfl rfl; clear hB hD; refine .inl ⟨rfl, ?_⟩; unfold Gives; go_simp; first | done | exact xr0 | exact xr1
   · intro ρ w' hE hB hD; have e1 : ρ (.tmp 1) = _ := hB (.tmp 1) rfl; have e88 : ρ (.tmp 88) = .bool ((gi m 0) == (8)) := hD 61 88 rfl rfl; clear hB hD; rcases Bool.eq_false_or_eq_true ((gi m 0) == (8)) with hc | hc
     case inr => exact .inr ⟨(wanted_t rfl rfl e88).trans hc, by show undef = gd _ _; rw [hc, gd_false]⟩
     simp only [hc, gd_true] at e1 ⊢; refine .inl ⟨(wanted_t rfl rfl e88).trans hc, ?_⟩; unfold Gives; go_simp; first | done | exact xr0 | exact xr1
   · intro ρ w' hE hB hD; have q0 := HC.out w' hE 30 (by decide); rw [cell30 hm] at q0; have e88 : ρ (.tmp 88) = .bool ((gi m 0) == (8)) := hD 61 88 rfl rfl; have e89 : ρ (.tmp 89) = gd ((gi m 0) == (8)) (.pointer (some ⟨g, 30, none⟩)) := hD 62 89 rfl rfl; clear hB hD; rcases Bool.eq_false_or_eq_true ((gi m 0) == (8)) with hc | hc
     case inr => exact .inr ⟨(wanted_t rfl rfl e88).trans hc, by show undef = gd _ _; rw [hc, gd_false]⟩
     simp only [hc, gd_true] at e89 ⊢; refine .inl ⟨(wanted_t rfl rfl e88).trans hc, ?_⟩; unfold Gives; go_simp; first | done | exact xr0 | exact xr1
   · intro ρ w' hE hB hD; have e1 : ρ (.tmp 1) = _ := hB (.tmp 1) rfl; have e88 : ρ (.tmp 88) = .bool ((gi m 0) == (8)) := hD 61 88 rfl rfl; clear hB hD; rcases Bool.eq_false_or_eq_true ((gi m 0) == (8)) with hc | hc
     case inr => exact .inr ⟨(wanted_t rfl rfl e88).trans hc, by show undef = gd _ _; rw [hc, gd_false]⟩
     simp only [hc, gd_true] at e1 ⊢; refine .inl ⟨(wanted_t rfl rfl e88).trans hc, ?_⟩; unfold Gives; go_simp; first | done | exact xr0 | exact xr1
   · intro ρ w' hE hB hD; have q0 := HC.out w' hE 28 (by decide); rw [cell28 hm] at q0; have e88 : ρ (.tmp 88) = .bool ((gi m 0) == (8)) := hD 61 88 rfl rfl; have e91 : ρ (.tmp 91) = gd ((gi m 0) == (8)) (.pointer (some ⟨g, 28, none⟩)) := hD 64 91 rfl rfl; clear hB hD; rcases Bool.eq_false_or_eq_true ((gi m 0) == (8)) with hc | hc
     case inr => exact .inr ⟨(wanted_t rfl rfl e88).trans hc, by show undef = gd _ _; rw [hc, gd_false]⟩
     simp only [hc, gd_true] at e91 ⊢; refine .inl ⟨(wanted_t rfl rfl e88).trans hc, ?_⟩; unfold Gives; go_simp; first | done | exact xr0 | exact xr1
   · intro ρ w' hE hB hD; have e88 : ρ (.tmp 88) = .bool ((gi m 0) == (8)) := hD 61 88 rfl rfl; have e90 : ρ (.tmp 90) = gd ((gi m 0) == (8)) (.int .i64 (gi m 30)) := hD 63 90 rfl rfl; have e92 : ρ (.tmp 92) = gd ((gi m 0) == (8)) (.int .i64 (gi m 28)) := hD 65 92 rfl rfl; clear hB hD; rcases Bool.eq_false_or_eq_true ((gi m 0) == (8)) with hc | hc
     case inr => exact .inr ⟨(wanted_t rfl rfl e88).trans hc, by show undef = gd _ _; rw [hc, gd_false]⟩
     simp only [hc, gd_true] at e90 e92 ⊢; refine .inl ⟨(wanted_t rfl rfl e88).trans hc, ?_⟩; unfold Gives; go_simp; first | done | exact xr0 | exact xr1
   · intro ρ w' hE hB hD; have ec := ctK hB
     have e88 : ρ (.tmp 88) = .bool ((gi m 0) == (8)) := hD 61 88 rfl rfl; have e93 : ρ (.tmp 93) = gd ((gi m 0) == (8)) (.bool (decide ((gi m 28) < (gi m 30)))) := hD 66 93 rfl rfl; clear hB hD; refine .inl ⟨rfl, ?_⟩; unfold Gives; rcases Bool.eq_false_or_eq_true ((gi m 0) == (8)) with hc | hc
     all_goals
      simp only [hc, gd_true, gd_false, Bool.not_true, Bool.not_false, Bool.true_or, Bool.false_or, Bool.true_and, Bool.false_and, Bool.or_true, Bool.and_true] at e88 e93 ⊢; clear hc; go_simp; first | done | exact xr0 | exact xr1
   · intro ρ w' hE hB hD; have ec := ctK hB
     have e94 : ρ (.tmp 94) = .bool (((gi m 0) == (8)) && (decide ((gi m 28) < (gi m 30)))) := hD 67 94 rfl rfl; clear hB hD; refine .inl ⟨rfl, ?_⟩; unfold Gives; go_simp; first | done | exact xr0 | exact xr1
   · intro ρ w' hE hB hD; have e1 : ρ (.tmp 1) = _ := hB (.tmp 1) rfl; clear hB hD; refine .inl ⟨rfl, ?_⟩; unfold Gives; go_simp; first | done | exact xr0 | exact xr1
   · intro ρ w' hE hB hD; have q0 := HC.out w' hE 0 (by decide); rw [cell0 hm] at q0; have e96 : ρ (.tmp 96) = .pointer (some ⟨g, 0, none⟩) := hD 69 96 rfl rfl; clear hB hD; refine .inl ⟨rfl, ?_⟩; unfold Gives; go_simp; first | done | exact xr0 | exact xr1
   · intro ρ w' hE hB hD; have ec := ctK hB
     have e97 : ρ (.tmp 97) = .int .i64 (gi m 0) := hD 70 97 rfl rfl; clear hB hD; refine .inl ⟨rfl, ?_⟩; unfold Gives; go_simp; first | done | exact xr0 | exact xr1
   · intro ρ w' hE hB hD; have e98 : ρ (.tmp 98) = .bool ((gi m 0) == (8)) := hD 71 98 rfl rfl; clear hB hD; refine .inl ⟨rfl, ?_⟩; unfold Gives; go_simp; first | done | exact xr0 | exact xr1
   · intro ρ w' hE hB hD; have e1 : ρ (.tmp 1) = _ := hB (.tmp 1) rfl; have e99 : ρ (.tmp 99) = .bool ((gi m 0) == (8)) := hD 72 99 rfl rfl; clear hB hD; rcases Bool.eq_false_or_eq_true ((gi m 0) == (8)) with hc | hc
     case inr => exact .inr ⟨(wanted_t rfl rfl e99).trans hc, by show undef = gd _ _; rw [hc, gd_false]⟩
     simp only [hc, gd_true] at e1 ⊢; refine .inl ⟨(wanted_t rfl rfl e99).trans hc, ?_⟩; unfold Gives; go_simp; first | done | exact xr0 | exact xr1
   · intro ρ w' hE hB hD; have q0 := HC.out w' hE 25 (by decide); rw [cell25 hm] at q0; have e99 : ρ (.tmp 99) = .bool ((gi m 0) == (8)) := hD 72 99 rfl rfl; have e100 : ρ (.tmp 100) = gd ((gi m 0) == (8)) (.pointer (some ⟨g, 25, none⟩)) := hD 73 100 rfl rfl; clear hB hD; rcases Bool.eq_false_or_eq_true ((gi m 0) == (8)) with hc | hc
     case inr => exact .inr ⟨(wanted_t rfl rfl e99).trans hc, by show undef = gd _ _; rw [hc, gd_false]⟩
     simp only [hc, gd_true] at e100 ⊢; refine .inl ⟨(wanted_t rfl rfl e99).trans hc, ?_⟩; unfold Gives; go_simp; first | done | exact xr0 | exact xr1
   · intro ρ w' hE hB hD; have ec := ctK hB
     have e99 : ρ (.tmp 99) = .bool ((gi m 0) == (8)) := hD 72 99 rfl rfl; have e101 : ρ (.tmp 101) = gd ((gi m 0) == (8)) (.int .i64 (gi m 25)) := hD 74 101 rfl rfl; clear hB hD; rcases Bool.eq_false_or_eq_true ((gi m 0) == (8)) with hc | hc
     case inr => exact .inr ⟨(wanted_t rfl rfl e99).trans hc, by show undef = gd _ _; rw [hc, gd_false]⟩
     simp only [hc, gd_true] at e101 ⊢; refine .inl ⟨(wanted_t rfl rfl e99).trans hc, ?_⟩; unfold Gives; go_simp; first | done | exact xr0 | exact xr1
   · intro ρ w' hE hB hD; have e1 : ρ (.tmp 1) = _ := hB (.tmp 1) rfl; have e99 : ρ (.tmp 99) = .bool ((gi m 0) == (8)) := hD 72 99 rfl rfl; clear hB hD; rcases Bool.eq_false_or_eq_true ((gi m 0) == (8)) with hc | hc
     case inr => exact .inr ⟨(wanted_t rfl rfl e99).trans hc, by show undef = gd _ _; rw [hc, gd_false]⟩
     simp only [hc, gd_true] at e1 ⊢; refine .inl ⟨(wanted_t rfl rfl e99).trans hc, ?_⟩; unfold Gives; go_simp; first | done | exact xr0 | exact xr1
   · intro ρ w' hE hB hD; have q0 := HC.out w' hE 31 (by decide); rw [cell31 hm] at q0; have e99 : ρ (.tmp 99) = .bool ((gi m 0) == (8)) := hD 72 99 rfl rfl; have e103 : ρ (.tmp 103) = gd ((gi m 0) == (8)) (.pointer (some ⟨g, 31, none⟩)) := hD 76 103 rfl rfl; clear hB hD; rcases Bool.eq_false_or_eq_true ((gi m 0) == (8)) with hc | hc
     case inr => exact .inr ⟨(wanted_t rfl rfl e99).trans hc, by show undef = gd _ _; rw [hc, gd_false]⟩
     simp only [hc, gd_true] at e103 ⊢; refine .inl ⟨(wanted_t rfl rfl e99).trans hc, ?_⟩; unfold Gives; go_simp; first | done | exact xr0 | exact xr1
   · intro ρ w' hE hB hD; have ec := ctK hB
     have e99 : ρ (.tmp 99) = .bool ((gi m 0) == (8)) := hD 72 99 rfl rfl; have e104 : ρ (.tmp 104) = gd ((gi m 0) == (8)) (.int .i64 (gi m 31)) := hD 77 104 rfl rfl; clear hB hD; rcases Bool.eq_false_or_eq_true ((gi m 0) == (8)) with hc | hc
     case inr => exact .inr ⟨(wanted_t rfl rfl e99).trans hc, by show undef = gd _ _; rw [hc, gd_false]⟩
     simp only [hc, gd_true] at e104 ⊢; refine .inl ⟨(wanted_t rfl rfl e99).trans hc, ?_⟩; unfold Gives; go_simp; first | done | exact xr0 | exact xr1
   · intro ρ w' hE hB hD; have e99 : ρ (.tmp 99) = .bool ((gi m 0) == (8)) := hD 72 99 rfl rfl; have e102 : ρ (.tmp 102) = gd ((gi m 0) == (8)) (.bool ((gi m 25) == (5))) := hD 75 102 rfl rfl; have e105 : ρ (.tmp 105) = gd ((gi m 0) == (8)) (.bool ((gi m 31) != (0))) := hD 78 105 rfl rfl; clear hB hD; rcases Bool.eq_false_or_eq_true ((gi m 0) == (8)) with hc | hc
     case inr => exact .inr ⟨(wanted_t rfl rfl e99).trans hc, by show undef = gd _ _; rw [hc, gd_false]⟩
     simp only [hc, gd_true] at e102 e105 ⊢; refine .inl ⟨(wanted_t rfl rfl e99).trans hc, ?_⟩; unfold Gives; go_simp; first | done | exact xr0 | exact xr1
   · intro ρ w' hE hB hD; have ec := ctK hB
     have e99 : ρ (.tmp 99) = .bool ((gi m 0) == (8)) := hD 72 99 rfl rfl; have e106 : ρ (.tmp 106) = gd ((gi m 0) == (8)) (.bool (((gi m 25) == (5)) != ((gi m 31) != (0)))) := hD 79 106 rfl rfl; clear hB hD; refine .inl ⟨rfl, ?_⟩; unfold Gives; rcases Bool.eq_false_or_eq_true ((gi m 0) == (8)) with hc | hc
     all_goals
      simp only [hc, gd_true, gd_false, Bool.not_true, Bool.not_false, Bool.true_or, Bool.false_or, Bool.true_and, Bool.false_and, Bool.or_true, Bool.and_true] at e99 e106 ⊢; clear hc; go_simp; first | done | exact xr0 | exact xr1
   · intro ρ w' hE hB hD; have ec := ctK hB
     have e107 : ρ (.tmp 107) = .bool (((gi m 0) == (8)) && (((gi m 25) == (5)) != ((gi m 31) != (0)))) := hD 80 107 rfl rfl; clear hB hD; refine .inl ⟨rfl, ?_⟩; unfold Gives; go_simp; first | done | exact xr0 | exact xr1
   · intro ρ w' hE hB hD; have e1 : ρ (.tmp 1) = _ := hB (.tmp 1) rfl; clear hB hD; refine .inl ⟨rfl, ?_⟩; unfold Gives; go_simp; first | done | exact xr0 | exact xr1
   · intro ρ w' hE hB hD; have q0 := HC.out w' hE 0 (by decide); rw [cell0 hm] at q0; have e109 : ρ (.tmp 109) = .pointer (some ⟨g, 0, none⟩) := hD 82 109 rfl rfl; clear hB hD; refine .inl ⟨rfl, ?_⟩; unfold Gives; go_simp; first | done | exact xr0 | exact xr1
   · intro ρ w' hE hB hD; have ec := ctK hB
     have e110 : ρ (.tmp 110) = .int .i64 (gi m 0) := hD 83 110 rfl rfl; clear hB hD; refine .inl ⟨rfl, ?_⟩; unfold Gives; go_simp; first | done | exact xr0 | exact xr1
   · intro ρ w' hE hB hD; have e111 : ρ (.tmp 111) = .bool ((gi m 0) == (13)) := hD 84 111 rfl rfl; clear hB hD; refine .inl ⟨rfl, ?_⟩; unfold Gives; go_simp; first | done | exact xr0 | exact xr1
   · intro ρ w' hE hB hD; have e5 : ρ (.tmp 5) = _ := hB (.tmp 5) rfl; have e112 : ρ (.tmp 112) = .bool ((gi m 0) == (13)) := hD 85 112 rfl rfl; clear hB hD; rcases Bool.eq_false_or_eq_true ((gi m 0) == (13)) with hc | hc
     case inr => exact .inr ⟨(wanted_t rfl rfl e112).trans hc, by show undef = gd _ _; rw [hc, gd_false]⟩
     simp only [hc, gd_true] at e5 ⊢; refine .inl ⟨(wanted_t rfl rfl e112).trans hc, ?_⟩; unfold Gives; go_simp; first | done | exact xr0 | exact xr1
   · intro ρ w' hE hB hD; have e1 : ρ (.tmp 1) = _ := hB (.tmp 1) rfl; have e112 : ρ (.tmp 112) = .bool ((gi m 0) == (13)) := hD 85 112 rfl rfl; clear hB hD; rcases Bool.eq_false_or_eq_true ((gi m 0) == (13)) with hc | hc
     case inr => exact .inr ⟨(wanted_t rfl rfl e112).trans hc, by show undef = gd _ _; rw [hc, gd_false]⟩
     simp only [hc, gd_true] at e1 ⊢; refine .inl ⟨(wanted_t rfl rfl e112).trans hc, ?_⟩; unfold Gives; go_simp; first | done | exact xr0 | exact xr1
   · intro ρ w' hE hB hD; have q0 := HC.out w' hE 36 (by decide); rw [cell36 hm] at q0; have e112 : ρ (.tmp 112) = .bool ((gi m 0) == (13)) := hD 85 112 rfl rfl; have e114 : ρ (.tmp 114) = gd ((gi m 0) == (13)) (.pointer (some ⟨g, 36, none⟩)) := hD 87 114 rfl rfl; clear hB hD; rcases Bool.eq_false_or_eq_true ((gi m 0) == (13)) with hc | hc
     case inr => exact .inr ⟨(wanted_t rfl rfl e112).trans hc, by show undef = gd _ _; rw [hc, gd_false]⟩
     simp only [hc, gd_true] at e114 ⊢; refine .inl ⟨(wanted_t rfl rfl e112).trans hc, ?_⟩; unfold Gives; go_simp; first | done | exact xr0 | exact xr1
   · intro ρ w' hE hB hD; have ec := ctK hB
     have e112 : ρ (.tmp 112) = .bool ((gi m 0) == (13)) := hD 85 112 rfl rfl; have e115 : ρ (.tmp 115) = gd ((gi m 0) == (13)) (.int .i64 (gi m 36)) := hD 88 115 rfl rfl; clear hB hD; rcases Bool.eq_false_or_eq_true ((gi m 0) == (13)) with hc | hc
     case inr => exact .inr ⟨(wanted_t rfl rfl e112).trans hc, by show undef = gd _ _; rw [hc, gd_false]⟩
     simp only [hc, gd_true] at e115 ⊢; refine .inl ⟨(wanted_t rfl rfl e112).trans hc, ?_⟩; unfold Gives; go_simp; first | done | exact xr0 | exact xr1
   · intro ρ w' hE hB hD; have e112 : ρ (.tmp 112) = .bool ((gi m 0) == (13)) := hD 85 112 rfl rfl; have e113 : ρ (.tmp 113) = gd ((gi m 0) == (13)) (.bool ((gi m 34) == (3))) := hD 86 113 rfl rfl; have e116 : ρ (.tmp 116) = gd ((gi m 0) == (13)) (.bool ((gi m 36) != (0))) := hD 89 116 rfl rfl; clear hB hD; rcases Bool.eq_false_or_eq_true ((gi m 0) == (13)) with hc | hc
     case inr => exact .inr ⟨(wanted_t rfl rfl e112).trans hc, by show undef = gd _ _; rw [hc, gd_false]⟩
     simp only [hc, gd_true] at e113 e116 ⊢; refine .inl ⟨(wanted_t rfl rfl e112).trans hc, ?_⟩; unfold Gives; go_simp; first | done | exact xr0 | exact xr1
   · intro ρ w' hE hB hD; have ec := ctK hB
     have e112 : ρ (.tmp 112) = .bool ((gi m 0) == (13)) := hD 85 112 rfl rfl; have e117 : ρ (.tmp 117) = gd ((gi m 0) == (13)) (.bool (((gi m 34) == (3)) != ((gi m 36) != (0)))) := hD 90 117 rfl rfl; clear hB hD; refine .inl ⟨rfl, ?_⟩; unfold Gives; rcases Bool.eq_false_or_eq_true ((gi m 0) == (13)) with hc | hc
     all_goals
      simp only [hc, gd_true, gd_false, Bool.not_true, Bool.not_false, Bool.true_or, Bool.false_or, Bool.true_and, Bool.false_and, Bool.or_true, Bool.and_true] at e112 e117 ⊢; clear hc; go_simp; first | done | exact xr0 | exact xr1
   · intro ρ w' hE hB hD; have ec := ctK hB
     have e118 : ρ (.tmp 118) = .bool (((gi m 0) == (13)) && (((gi m 34) == (3)) != ((gi m 36) != (0)))) := hD 91 118 rfl rfl; clear hB hD; refine .inl ⟨rfl, ?_⟩; unfold Gives; go_simp; first | done | exact xr0 | exact xr1
   · intro ρ w' hE hB hD; have e1 : ρ (.tmp 1) = _ := hB (.tmp 1) rfl; clear hB hD; refine .inl ⟨rfl, ?_⟩; unfold Gives; go_simp; first | done | exact xr0 | exact xr1
   · intro ρ w' hE hB hD; have q0 := HC.out w' hE 0 (by decide); rw [cell0 hm] at q0; have e120 : ρ (.tmp 120) = .pointer (some ⟨g, 0, none⟩) := hD 93 120 rfl rfl; clear hB hD; refine .inl ⟨rfl, ?_⟩; unfold Gives; go_simp; first | done | exact xr0 | exact xr1
   · intro ρ w' hE hB hD; have ec := ctK hB
     have e121 : ρ (.tmp 121) = .int .i64 (gi m 0) := hD 94 121 rfl rfl; clear hB hD; refine .inl ⟨rfl, ?_⟩; unfold Gives; go_simp; first | done | exact xr0 | exact xr1
   · intro ρ w' hE hB hD; have e122 : ρ (.tmp 122) = .bool ((gi m 0) == (13)) := hD 95 122 rfl rfl; clear hB hD; refine .inl ⟨rfl, ?_⟩; unfold Gives; go_simp; first | done | exact xr0 | exact xr1
   · intro ρ w' hE hB hD; have e5 : ρ (.tmp 5) = _ := hB (.tmp 5) rfl; have e123 : ρ (.tmp 123) = .bool ((gi m 0) == (13)) := hD 96 123 rfl rfl; clear hB hD; rcases Bool.eq_false_or_eq_true ((gi m 0) == (13)) with hc | hc
     case inr => exact .inr ⟨(wanted_t rfl rfl e123).trans hc, by show undef = gd _ _; rw [hc, gd_false]⟩
     simp only [hc, gd_true] at e5 ⊢; refine .inl ⟨(wanted_t rfl rfl e123).trans hc, ?_⟩; unfold Gives; go_simp; first | done | exact xr0 | exact xr1
   · intro ρ w' hE hB hD; have e1 : ρ (.tmp 1) = _ := hB (.tmp 1) rfl; have e123 : ρ (.tmp 123) = .bool ((gi m 0) == (13)) := hD 96 123 rfl rfl; clear hB hD; rcases Bool.eq_false_or_eq_true ((gi m 0) == (13)) with hc | hc
     case inr => exact .inr ⟨(wanted_t rfl rfl e123).trans hc, by show undef = gd _ _; rw [hc, gd_false]⟩
     simp only [hc, gd_true] at e1 ⊢; refine .inl ⟨(wanted_t rfl rfl e123).trans hc, ?_⟩; unfold Gives; go_simp; first | done | exact xr0 | exact xr1
   · intro ρ w' hE hB hD; have q0 := HC.out w' hE 37 (by decide); rw [cell37 hm] at q0; have e123 : ρ (.tmp 123) = .bool ((gi m 0) == (13)) := hD 96 123 rfl rfl; have e125 : ρ (.tmp 125) = gd ((gi m 0) == (13)) (.pointer (some ⟨g, 37, none⟩)) := hD 98 125 rfl rfl; clear hB hD; rcases Bool.eq_false_or_eq_true ((gi m 0) == (13)) with hc | hc
     case inr => exact .inr ⟨(wanted_t rfl rfl e123).trans hc, by show undef = gd _ _; rw [hc, gd_false]⟩
     simp only [hc, gd_true] at e125 ⊢; refine .inl ⟨(wanted_t rfl rfl e123).trans hc, ?_⟩; unfold Gives; go_simp; first | done | exact xr0 | exact xr1
   · intro ρ w' hE hB hD; have ec := ctK hB
     have e123 : ρ (.tmp 123) = .bool ((gi m 0) == (13)) := hD 96 123 rfl rfl; have e126 : ρ (.tmp 126) = gd ((gi m 0) == (13)) (.int .i64 (gi m 37)) := hD 99 126 rfl rfl; clear hB hD; rcases Bool.eq_false_or_eq_true ((gi m 0) == (13)) with hc | hc
     case inr => exact .inr ⟨(wanted_t rfl rfl e123).trans hc, by show undef = gd _ _; rw [hc, gd_false]⟩
     simp only [hc, gd_true] at e126 ⊢; refine .inl ⟨(wanted_t rfl rfl e123).trans hc, ?_⟩; unfold Gives; go_simp; first | done | exact xr0 | exact xr1
   · intro ρ w' hE hB hD; have e123 : ρ (.tmp 123) = .bool ((gi m 0) == (13)) := hD 96 123 rfl rfl; have e124 : ρ (.tmp 124) = gd ((gi m 0) == (13)) (.bool ((gi m 34) == (3))) := hD 97 124 rfl rfl; have e127 : ρ (.tmp 127) = gd ((gi m 0) == (13)) (.bool ((gi m 37) != (0))) := hD 100 127 rfl rfl; clear hB hD; rcases Bool.eq_false_or_eq_true ((gi m 0) == (13)) with hc | hc
     case inr => exact .inr ⟨(wanted_t rfl rfl e123).trans hc, by show undef = gd _ _; rw [hc, gd_false]⟩
     simp only [hc, gd_true] at e124 e127 ⊢; refine .inl ⟨(wanted_t rfl rfl e123).trans hc, ?_⟩; unfold Gives; go_simp; first | done | exact xr0 | exact xr1
   · intro ρ w' hE hB hD; have ec := ctK hB
     have e123 : ρ (.tmp 123) = .bool ((gi m 0) == (13)) := hD 96 123 rfl rfl; have e128 : ρ (.tmp 128) = gd ((gi m 0) == (13)) (.bool (((gi m 34) == (3)) != ((gi m 37) != (0)))) := hD 101 128 rfl rfl; clear hB hD; refine .inl ⟨rfl, ?_⟩; unfold Gives; rcases Bool.eq_false_or_eq_true ((gi m 0) == (13)) with hc | hc
     all_goals
      simp only [hc, gd_true, gd_false, Bool.not_true, Bool.not_false, Bool.true_or, Bool.false_or, Bool.true_and, Bool.false_and, Bool.or_true, Bool.and_true] at e123 e128 ⊢; clear hc; go_simp; first | done | exact xr0 | exact xr1
   · intro ρ w' hE hB hD; have ec := ctK hB
     have e129 : ρ (.tmp 129) = .bool (((gi m 0) == (13)) && (((gi m 34) == (3)) != ((gi m 37) != (0)))) := hD 102 129 rfl rfl; clear hB hD; refine .inl ⟨rfl, ?_⟩; unfold Gives; go_simp; first | done | exact xr0 | exact xr1
   · intro ρ w' hE hB hD; have e1 : ρ (.tmp 1) = _ := hB (.tmp 1) rfl; clear hB hD; refine .inl ⟨rfl, ?_⟩; unfold Gives; go_simp; first | done | exact xr0 | exact xr1
   · intro ρ w' hE hB hD; have q0 := HC.out w' hE 0 (by decide); rw [cell0 hm] at q0; have e131 : ρ (.tmp 131) = .pointer (some ⟨g, 0, none⟩) := hD 104 131 rfl rfl; clear hB hD; refine .inl ⟨rfl, ?_⟩; unfold Gives; go_simp; first | done | exact xr0 | exact xr1
   · intro ρ w' hE hB hD; have ec := ctK hB
     have e132 : ρ (.tmp 132) = .int .i64 (gi m 0) := hD 105 132 rfl rfl; clear hB hD; refine .inl ⟨rfl, ?_⟩; unfold Gives; go_simp; first | done | exact xr0 | exact xr1
   · intro ρ w' hE hB hD; have e133 : ρ (.tmp 133) = .bool ((gi m 0) == (13)) := hD 106 133 rfl rfl; clear hB hD; refine .inl ⟨rfl, ?_⟩; unfold Gives; go_simp; first | done | exact xr0 | exact xr1
   · intro ρ w' hE hB hD; have e1 : ρ (.tmp 1) = _ := hB (.tmp 1) rfl; have e134 : ρ (.tmp 134) = .bool ((gi m 0) == (13)) := hD 107 134 rfl rfl; clear hB hD; rcases Bool.eq_false_or_eq_true ((gi m 0) == (13)) with hc | hc
     case inr => exact .inr ⟨(wanted_t rfl rfl e134).trans hc, by show undef = gd _ _; rw [hc, gd_false]⟩
     simp only [hc, gd_true] at e1 ⊢; refine .inl ⟨(wanted_t rfl rfl e134).trans hc, ?_⟩; unfold Gives; go_simp; first | done | exact xr0 | exact xr1
   · intro ρ w' hE hB hD; have q0 := HC.out w' hE 38 (by decide); rw [cell38 hm] at q0; have e134 : ρ (.tmp 134) = .bool ((gi m 0) == (13)) := hD 107 134 rfl rfl; have e135 : ρ (.tmp 135) = gd ((gi m 0) == (13)) (.pointer (some ⟨g, 38, none⟩)) := hD 108 135 rfl rfl; clear hB hD; rcases Bool.eq_false_or_eq_true ((gi m 0) == (13)) with hc | hc
     case inr => exact .inr ⟨(wanted_t rfl rfl e134).trans hc, by show undef = gd _ _; rw [hc, gd_false]⟩
     simp only [hc, gd_true] at e135 ⊢; refine .inl ⟨(wanted_t rfl rfl e134).trans hc, ?_⟩; unfold Gives; go_simp; first | done | exact xr0 | exact xr1
   · intro ρ w' hE hB hD; have e1 : ρ (.tmp 1) = _ := hB (.tmp 1) rfl; have e134 : ρ (.tmp 134) = .bool ((gi m 0) == (13)) := hD 107 134 rfl rfl; clear hB hD; rcases Bool.eq_false_or_eq_true ((gi m 0) == (13)) with hc | hc
     case inr => exact .inr ⟨(wanted_t rfl rfl e134).trans hc, by show undef = gd _ _; rw [hc, gd_false]⟩
     simp only [hc, gd_true] at e1 ⊢; refine .inl ⟨(wanted_t rfl rfl e134).trans hc, ?_⟩; unfold Gives; go_simp; first | done | exact xr0 | exact xr1
   · intro ρ w' hE hB hD; have q0 := HC.out w' hE 39 (by decide); rw [cell39 hm] at q0; have e134 : ρ (.tmp 134) = .bool ((gi m 0) == (13)) := hD 107 134 rfl rfl; have e137 : ρ (.tmp 137) = gd ((gi m 0) == (13)) (.pointer (some ⟨g, 39, none⟩)) := hD 110 137 rfl rfl; clear hB hD; rcases Bool.eq_false_or_eq_true ((gi m 0) == (13)) with hc | hc
     case inr => exact .inr ⟨(wanted_t rfl rfl e134).trans hc, by show undef = gd _ _; rw [hc, gd_false]⟩
     simp only [hc, gd_true] at e137 ⊢; refine .inl ⟨(wanted_t rfl rfl e134).trans hc, ?_⟩; unfold Gives; go_simp; first | done | exact xr0 | exact xr1
   · intro ρ w' hE hB hD; have e134 : ρ (.tmp 134) = .bool ((gi m 0) == (13)) := hD 107 134 rfl rfl; have e136 : ρ (.tmp 136) = gd ((gi m 0) == (13)) (.int .i64 (gi m 38)) := hD 109 136 rfl rfl; have e138 : ρ (.tmp 138) = gd ((gi m 0) == (13)) (.int .i64 (gi m 39)) := hD 111 138 rfl rfl; clear hB hD; rcases Bool.eq_false_or_eq_true ((gi m 0) == (13)) with hc | hc
     case inr => exact .inr ⟨(wanted_t rfl rfl e134).trans hc, by show undef = gd _ _; rw [hc, gd_false]⟩
     simp only [hc, gd_true] at e136 e138 ⊢; refine .inl ⟨(wanted_t rfl rfl e134).trans hc, ?_⟩; unfold Gives; go_simp; exact ⟨Ext.refl _, congrArg (Value.int .i64) (by simp only [IntKind.wrap_i64, wrap64]; omega)⟩
   · intro ρ w' hE hB hD; have e1 : ρ (.tmp 1) = _ := hB (.tmp 1) rfl; have e134 : ρ (.tmp 134) = .bool ((gi m 0) == (13)) := hD 107 134 rfl rfl; clear hB hD; rcases Bool.eq_false_or_eq_true ((gi m 0) == (13)) with hc | hc
     case inr => exact .inr ⟨(wanted_t rfl rfl e134).trans hc, by show undef = gd _ _; rw [hc, gd_false]⟩
     simp only [hc, gd_true] at e1 ⊢; refine .inl ⟨(wanted_t rfl rfl e134).trans hc, ?_⟩; unfold Gives; go_simp; first | done | exact xr0 | exact xr1
   · intro ρ w' hE hB hD; have q0 := HC.out w' hE 28 (by decide); rw [cell28 hm] at q0; have e134 : ρ (.tmp 134) = .bool ((gi m 0) == (13)) := hD 107 134 rfl rfl; have e140 : ρ (.tmp 140) = gd ((gi m 0) == (13)) (.pointer (some ⟨g, 28, none⟩)) := hD 113 140 rfl rfl; clear hB hD; rcases Bool.eq_false_or_eq_true ((gi m 0) == (13)) with hc | hc
     case inr => exact .inr ⟨(wanted_t rfl rfl e134).trans hc, by show undef = gd _ _; rw [hc, gd_false]⟩
     simp only [hc, gd_true] at e140 ⊢; refine .inl ⟨(wanted_t rfl rfl e134).trans hc, ?_⟩; unfold Gives; go_simp; first | done | exact xr0 | exact xr1
   · intro ρ w' hE hB hD; have e134 : ρ (.tmp 134) = .bool ((gi m 0) == (13)) := hD 107 134 rfl rfl; have e139 : ρ (.tmp 139) = gd ((gi m 0) == (13)) (.int .i64 ((gi m 38) + (gi m 39))) := hD 112 139 rfl rfl; have e141 : ρ (.tmp 141) = gd ((gi m 0) == (13)) (.int .i64 (gi m 28)) := hD 114 141 rfl rfl; clear hB hD; rcases Bool.eq_false_or_eq_true ((gi m 0) == (13)) with hc | hc
     case inr => exact .inr ⟨(wanted_t rfl rfl e134).trans hc, by show undef = gd _ _; rw [hc, gd_false]⟩
     simp only [hc, gd_true] at e139 e141 ⊢; refine .inl ⟨(wanted_t rfl rfl e134).trans hc, ?_⟩; unfold Gives; go_simp; first | done | exact xr0 | exact xr1
   · intro ρ w' hE hB hD; have ec := ctK hB
     have e134 : ρ (.tmp 134) = .bool ((gi m 0) == (13)) := hD 107 134 rfl rfl; have e142 : ρ (.tmp 142) = gd ((gi m 0) == (13)) (.bool (decide ((gi m 28) < ((gi m 38) + (gi m 39))))) := hD 115 142 rfl rfl; clear hB hD; refine .inl ⟨rfl, ?_⟩; unfold Gives; rcases Bool.eq_false_or_eq_true ((gi m 0) == (13)) with hc | hc
     all_goals
      simp only [hc, gd_true, gd_false, Bool.not_true, Bool.not_false, Bool.true_or, Bool.false_or, Bool.true_and, Bool.false_and, Bool.or_true, Bool.and_true] at e134 e142 ⊢; clear hc; go_simp; first | done | exact xr0 | exact xr1
   · intro ρ w' hE hB hD; have ec := ctK hB
     have e143 : ρ (.tmp 143) = .bool (((gi m 0) == (13)) && (decide ((gi m 28) < ((gi m 38) + (gi m 39))))) := hD 116 143 rfl rfl; clear hB hD; refine .inl ⟨rfl, ?_⟩; unfold Gives; go_simp; first | done | exact xr0 | exact xr1
   · intro ρ w' hE hB hD; have e35 : ρ (.tmp 35) = .agg #[.bool (((gi m 6) != (0)) && (!(gb m 4))), .int .i64 (122)] := hD 8 35 rfl rfl; have e51 : ρ (.tmp 51) = .agg #[.bool ((((gi m 0) == (3)) && ((gi m 11) != (0))) && (decide ((gi m 11) < (gi m 10)))), .int .i64 (16)] := hD 24 51 rfl rfl; have e62 : ρ (.tmp 62) = .agg #[.bool (((gi m 0) == (8)) && ((((gi m 24) == (1)) || ((gi m 24) == (4))) != ((gi m 26) != (0)))), .int .i64 (44)] := hD 35 62 rfl rfl; have e73 : ρ (.tmp 73) = .agg #[.bool (((gi m 0) == (8)) && ((((gi m 24) == (3)) || ((gi m 24) == (4))) != ((gi m 27) != (0)))), .int .i64 (99)] := hD 46 73 rfl rfl; have e84 : ρ (.tmp 84) = .agg #[.bool (((gi m 0) == (8)) && (decide ((gi m 28) < (gi m 29)))), .int .i64 (111)] := hD 57 84 rfl rfl; have e95 : ρ (.tmp 95) = .agg #[.bool (((gi m 0) == (8)) && (decide ((gi m 28) < (gi m 30)))), .int .i64 (110)] := hD 68 95 rfl rfl; have e108 : ρ (.tmp 108) = .agg #[.bool (((gi m 0) == (8)) && (((gi m 25) == (5)) != ((gi m 31) != (0)))), .int .i64 (432)] := hD 81 108 rfl rfl; have e119 : ρ (.tmp 119) = .agg #[.bool (((gi m 0) == (13)) && (((gi m 34) == (3)) != ((gi m 36) != (0)))), .int .i64 (31)] := hD 92 119 rfl rfl; have e130 : ρ (.tmp 130) = .agg #[.bool (((gi m 0) == (13)) && (((gi m 34) == (3)) != ((gi m 37) != (0)))), .int .i64 (32)] := hD 103 130 rfl rfl; have e144 : ρ (.tmp 144) = .agg #[.bool (((gi m 0) == (13)) && (decide ((gi m 28) < ((gi m 38) + (gi m 39))))), .int .i64 (14)] := hD 117 144 rfl rfl; clear hB hD
     refine .inl ⟨rfl, ?_⟩; unfold Gives; refine gives_build (.slice (some ⟨w'.heap.size, 0, none⟩) 10 10) (w'.alloc (.cells (fitsCells m).toArray 155)) ?_ ?_
     · rw [List.map_toArray]; simp only [List.map_cons, List.map_nil, e35, e51, e62, e73, e84, e95, e108, e119, e130, e144]
       kernel_rfl
     · exact ⟨(Ext.refl w').alloc _, ⟨_, rfl, heap_alloc_new _ _⟩⟩
   · intro ρ w' hE hB hD; have r145 := hD 118 145 rfl rfl; change MPost.p (pFits m) _ _ at r145; clear hB hD; refine .inl ⟨rfl, ?_⟩; unfold Gives; obtain ⟨b0, e145, hb0⟩ := r145; go_simp; first | done | exact xr0 | exact xr1
   · intro ρ w' hE hB hD; have ec := ctK hB
     clear hB hD; refine .inl ⟨rfl, ?_⟩; unfold Gives; go_simp; first | done | exact xr0 | exact xr1
 intro a' w4 hE4 hd' hs' hB' hP'; obtain ⟨x145, hx145⟩ : ∃ x, a'.eval (.tmp 145) = x := ⟨_, rfl⟩
 have r145 := hP' 118 145 rfl; change MPost.p (pFits m) _ _ at r145; rw [hx145] at r145
 have ha' := act_of_posts [(27, .pointer (some ⟨g, 6, none⟩)), (28, .int .i64 (gi m 6)), (29, .bool ((gi m 6) != (0))), (30, .bool ((gi m 6) != (0))), (31, gd ((gi m 6) != (0)) (.pointer (some ⟨g, 4, none⟩))), (32, gd ((gi m 6) != (0)) (.bool (gb m 4))), (33, gd ((gi m 6) != (0)) (.bool (!(gb m 4)))), (34, .bool (((gi m 6) != (0)) && (!(gb m 4)))), (35, .agg #[.bool (((gi m 6) != (0)) && (!(gb m 4))), .int .i64 (122)]), (36, .pointer (some ⟨g, 0, none⟩)), (37, .int .i64 (gi m 0)), (38, .bool ((gi m 0) == (3))), (39, .bool ((gi m 0) == (3))), (40, gd ((gi m 0) == (3)) (.pointer (some ⟨g, 11, none⟩))), (41, gd ((gi m 0) == (3)) (.int .i64 (gi m 11))), (42, gd ((gi m 0) == (3)) (.bool ((gi m 11) != (0)))), (43, .bool (((gi m 0) == (3)) && ((gi m 11) != (0)))), (44, .bool (((gi m 0) == (3)) && ((gi m 11) != (0)))), (45, gd (((gi m 0) == (3)) && ((gi m 11) != (0))) (.pointer (some ⟨g, 11, none⟩))), (46, gd (((gi m 0) == (3)) && ((gi m 11) != (0))) (.int .i64 (gi m 11))), (47, gd (((gi m 0) == (3)) && ((gi m 11) != (0))) (.pointer (some ⟨g, 10, none⟩))), (48, gd (((gi m 0) == (3)) && ((gi m 11) != (0))) (.int .i64 (gi m 10))), (49, gd (((gi m 0) == (3)) && ((gi m 11) != (0))) (.bool (decide ((gi m 11) < (gi m 10))))), (50, .bool ((((gi m 0) == (3)) && ((gi m 11) != (0))) && (decide ((gi m 11) < (gi m 10))))), (51, .agg #[.bool ((((gi m 0) == (3)) && ((gi m 11) != (0))) && (decide ((gi m 11) < (gi m 10)))), .int .i64 (16)]), (52, .pointer (some ⟨g, 0, none⟩)), (53, .int .i64 (gi m 0)), (54, .bool ((gi m 0) == (8))), (55, .bool ((gi m 0) == (8))), (56, gd ((gi m 0) == (8)) (.bool (((gi m 24) == (1)) || ((gi m 24) == (4))))), (57, gd ((gi m 0) == (8)) (.pointer (some ⟨g, 26, none⟩))), (58, gd ((gi m 0) == (8)) (.int .i64 (gi m 26))), (59, gd ((gi m 0) == (8)) (.bool ((gi m 26) != (0)))), (60, gd ((gi m 0) == (8)) (.bool ((((gi m 24) == (1)) || ((gi m 24) == (4))) != ((gi m 26) != (0))))), (61, .bool (((gi m 0) == (8)) && ((((gi m 24) == (1)) || ((gi m 24) == (4))) != ((gi m 26) != (0))))), (62, .agg #[.bool (((gi m 0) == (8)) && ((((gi m 24) == (1)) || ((gi m 24) == (4))) != ((gi m 26) != (0)))), .int .i64 (44)]), (63, .pointer (some ⟨g, 0, none⟩)), (64, .int .i64 (gi m 0)), (65, .bool ((gi m 0) == (8))), (66, .bool ((gi m 0) == (8))), (67, gd ((gi m 0) == (8)) (.bool (((gi m 24) == (3)) || ((gi m 24) == (4))))), (68, gd ((gi m 0) == (8)) (.pointer (some ⟨g, 27, none⟩))), (69, gd ((gi m 0) == (8)) (.int .i64 (gi m 27))), (70, gd ((gi m 0) == (8)) (.bool ((gi m 27) != (0)))), (71, gd ((gi m 0) == (8)) (.bool ((((gi m 24) == (3)) || ((gi m 24) == (4))) != ((gi m 27) != (0))))), (72, .bool (((gi m 0) == (8)) && ((((gi m 24) == (3)) || ((gi m 24) == (4))) != ((gi m 27) != (0))))), (73, .agg #[.bool (((gi m 0) == (8)) && ((((gi m 24) == (3)) || ((gi m 24) == (4))) != ((gi m 27) != (0)))), .int .i64 (99)]), (74, .pointer (some ⟨g, 0, none⟩)), (75, .int .i64 (gi m 0)), (76, .bool ((gi m 0) == (8))), (77, .bool ((gi m 0) == (8))), (78, gd ((gi m 0) == (8)) (.pointer (some ⟨g, 29, none⟩))), (79, gd ((gi m 0) == (8)) (.int .i64 (gi m 29))), (80, gd ((gi m 0) == (8)) (.pointer (some ⟨g, 28, none⟩))), (81, gd ((gi m 0) == (8)) (.int .i64 (gi m 28))), (82, gd ((gi m 0) == (8)) (.bool (decide ((gi m 28) < (gi m 29))))), (83, .bool (((gi m 0) == (8)) && (decide ((gi m 28) < (gi m 29))))), (84, .agg #[.bool (((gi m 0) == (8)) && (decide ((gi m 28) < (gi m 29)))), .int .i64 (111)]), (85, .pointer (some ⟨g, 0, none⟩)), (86, .int .i64 (gi m 0)), (87, .bool ((gi m 0) == (8))), (88, .bool ((gi m 0) == (8))), (89, gd ((gi m 0) == (8)) (.pointer (some ⟨g, 30, none⟩))), (90, gd ((gi m 0) == (8)) (.int .i64 (gi m 30))), (91, gd ((gi m 0) == (8)) (.pointer (some ⟨g, 28, none⟩))), (92, gd ((gi m 0) == (8)) (.int .i64 (gi m 28))), (93, gd ((gi m 0) == (8)) (.bool (decide ((gi m 28) < (gi m 30))))), (94, .bool (((gi m 0) == (8)) && (decide ((gi m 28) < (gi m 30))))), (95, .agg #[.bool (((gi m 0) == (8)) && (decide ((gi m 28) < (gi m 30)))), .int .i64 (110)]), (96, .pointer (some ⟨g, 0, none⟩)), (97, .int .i64 (gi m 0)), (98, .bool ((gi m 0) == (8))), (99, .bool ((gi m 0) == (8))), (100, gd ((gi m 0) == (8)) (.pointer (some ⟨g, 25, none⟩))), (101, gd ((gi m 0) == (8)) (.int .i64 (gi m 25))), (102, gd ((gi m 0) == (8)) (.bool ((gi m 25) == (5)))), (103, gd ((gi m 0) == (8)) (.pointer (some ⟨g, 31, none⟩))), (104, gd ((gi m 0) == (8)) (.int .i64 (gi m 31))), (105, gd ((gi m 0) == (8)) (.bool ((gi m 31) != (0)))), (106, gd ((gi m 0) == (8)) (.bool (((gi m 25) == (5)) != ((gi m 31) != (0))))), (107, .bool (((gi m 0) == (8)) && (((gi m 25) == (5)) != ((gi m 31) != (0))))), (108, .agg #[.bool (((gi m 0) == (8)) && (((gi m 25) == (5)) != ((gi m 31) != (0)))), .int .i64 (432)]), (109, .pointer (some ⟨g, 0, none⟩)), (110, .int .i64 (gi m 0)), (111, .bool ((gi m 0) == (13))), (112, .bool ((gi m 0) == (13))), (113, gd ((gi m 0) == (13)) (.bool ((gi m 34) == (3)))), (114, gd ((gi m 0) == (13)) (.pointer (some ⟨g, 36, none⟩))), (115, gd ((gi m 0) == (13)) (.int .i64 (gi m 36))), (116, gd ((gi m 0) == (13)) (.bool ((gi m 36) != (0)))), (117, gd ((gi m 0) == (13)) (.bool (((gi m 34) == (3)) != ((gi m 36) != (0))))), (118, .bool (((gi m 0) == (13)) && (((gi m 34) == (3)) != ((gi m 36) != (0))))), (119, .agg #[.bool (((gi m 0) == (13)) && (((gi m 34) == (3)) != ((gi m 36) != (0)))), .int .i64 (31)]), (120, .pointer (some ⟨g, 0, none⟩)), (121, .int .i64 (gi m 0)), (122, .bool ((gi m 0) == (13))), (123, .bool ((gi m 0) == (13))), (124, gd ((gi m 0) == (13)) (.bool ((gi m 34) == (3)))), (125, gd ((gi m 0) == (13)) (.pointer (some ⟨g, 37, none⟩))), (126, gd ((gi m 0) == (13)) (.int .i64 (gi m 37))), (127, gd ((gi m 0) == (13)) (.bool ((gi m 37) != (0)))), (128, gd ((gi m 0) == (13)) (.bool (((gi m 34) == (3)) != ((gi m 37) != (0))))), (129, .bool (((gi m 0) == (13)) && (((gi m 34) == (3)) != ((gi m 37) != (0))))), (130, .agg #[.bool (((gi m 0) == (13)) && (((gi m 34) == (3)) != ((gi m 37) != (0)))), .int .i64 (32)]), (131, .pointer (some ⟨g, 0, none⟩)), (132, .int .i64 (gi m 0)), (133, .bool ((gi m 0) == (13))), (134, .bool ((gi m 0) == (13))), (135, gd ((gi m 0) == (13)) (.pointer (some ⟨g, 38, none⟩))), (136, gd ((gi m 0) == (13)) (.int .i64 (gi m 38))), (137, gd ((gi m 0) == (13)) (.pointer (some ⟨g, 39, none⟩))), (138, gd ((gi m 0) == (13)) (.int .i64 (gi m 39))), (139, gd ((gi m 0) == (13)) (.int .i64 ((gi m 38) + (gi m 39)))), (140, gd ((gi m 0) == (13)) (.pointer (some ⟨g, 28, none⟩))), (141, gd ((gi m 0) == (13)) (.int .i64 (gi m 28))), (142, gd ((gi m 0) == (13)) (.bool (decide ((gi m 28) < ((gi m 38) + (gi m 39)))))), (143, .bool (((gi m 0) == (13)) && (decide ((gi m 28) < ((gi m 38) + (gi m 39)))))), (144, .agg #[.bool (((gi m 0) == (13)) && (decide ((gi m 28) < ((gi m 38) + (gi m 39))))), .int .i64 (14)]), (145, x145), (146, .int .i64 10), (147, .int .i64 (0))] hd' hs' hB' (by simp) (by kernel_rfl) (by
  intro p hp; simp only [List.mem_cons, List.mem_nil_iff, or_false] at hp
  rcases hp with rfl | rfl | rfl | rfl | rfl | rfl | rfl | rfl | rfl | rfl | rfl | rfl | rfl | rfl | rfl | rfl | rfl | rfl | rfl | rfl | rfl | rfl | rfl | rfl | rfl | rfl | rfl | rfl | rfl | rfl | rfl | rfl | rfl | rfl | rfl | rfl | rfl | rfl | rfl | rfl | rfl | rfl | rfl | rfl | rfl | rfl | rfl | rfl | rfl | rfl | rfl | rfl | rfl | rfl | rfl | rfl | rfl | rfl | rfl | rfl | rfl | rfl | rfl | rfl | rfl | rfl | rfl | rfl | rfl | rfl | rfl | rfl | rfl | rfl | rfl | rfl | rfl | rfl | rfl | rfl | rfl | rfl | rfl | rfl | rfl | rfl | rfl | rfl | rfl | rfl | rfl | rfl | rfl | rfl | rfl | rfl | rfl | rfl | rfl | rfl | rfl | rfl | rfl | rfl | rfl | rfl | rfl | rfl | rfl | rfl | rfl | rfl | rfl | rfl | rfl | rfl | rfl | rfl | rfl | rfl | rfl
  · exact hP' 0 27 rfl
  · exact hP' 1 28 rfl
  · exact hP' 2 29 rfl
  · exact hP' 3 30 rfl
  · exact hP' 4 31 rfl
  · exact hP' 5 32 rfl
  · exact hP' 6 33 rfl
  · exact hP' 7 34 rfl
  · exact hP' 8 35 rfl
  · exact hP' 9 36 rfl
  · exact hP' 10 37 rfl
  · exact hP' 11 38 rfl
  · exact hP' 12 39 rfl
  · exact hP' 13 40 rfl
  · exact hP' 14 41 rfl
  · exact hP' 15 42 rfl
  · exact hP' 16 43 rfl
  · exact hP' 17 44 rfl
  · exact hP' 18 45 rfl
  · exact hP' 19 46 rfl
  · exact hP' 20 47 rfl
  · exact hP' 21 48 rfl
  · exact hP' 22 49 rfl
  · exact hP' 23 50 rfl
  · exact hP' 24 51 rfl
  · exact hP' 25 52 rfl
  · exact hP' 26 53 rfl
  · exact hP' 27 54 rfl
  · exact hP' 28 55 rfl
  · exact hP' 29 56 rfl
  · exact hP' 30 57 rfl
  · exact hP' 31 58 rfl
  · exact hP' 32 59 rfl
  · exact hP' 33 60 rfl
  · exact hP' 34 61 rfl
  · exact hP' 35 62 rfl
  · exact hP' 36 63 rfl
  · exact hP' 37 64 rfl
  · exact hP' 38 65 rfl
  · exact hP' 39 66 rfl
  · exact hP' 40 67 rfl
  · exact hP' 41 68 rfl
  · exact hP' 42 69 rfl
  · exact hP' 43 70 rfl
  · exact hP' 44 71 rfl
  · exact hP' 45 72 rfl
  · exact hP' 46 73 rfl
  · exact hP' 47 74 rfl
  · exact hP' 48 75 rfl
  · exact hP' 49 76 rfl
  · exact hP' 50 77 rfl
  · exact hP' 51 78 rfl
  · exact hP' 52 79 rfl
  · exact hP' 53 80 rfl
  · exact hP' 54 81 rfl
  · exact hP' 55 82 rfl
  · exact hP' 56 83 rfl
  · exact hP' 57 84 rfl
  · exact hP' 58 85 rfl
  · exact hP' 59 86 rfl
  · exact hP' 60 87 rfl
  · exact hP' 61 88 rfl
  · exact hP' 62 89 rfl
  · exact hP' 63 90 rfl
  · exact hP' 64 91 rfl
  · exact hP' 65 92 rfl
  · exact hP' 66 93 rfl
  · exact hP' 67 94 rfl
  · exact hP' 68 95 rfl
  · exact hP' 69 96 rfl
  · exact hP' 70 97 rfl
  · exact hP' 71 98 rfl
  · exact hP' 72 99 rfl
  · exact hP' 73 100 rfl
  · exact hP' 74 101 rfl
  · exact hP' 75 102 rfl
  · exact hP' 76 103 rfl
  · exact hP' 77 104 rfl
  · exact hP' 78 105 rfl
  · exact hP' 79 106 rfl
  · exact hP' 80 107 rfl
  · exact hP' 81 108 rfl
  · exact hP' 82 109 rfl
  · exact hP' 83 110 rfl
  · exact hP' 84 111 rfl
  · exact hP' 85 112 rfl
  · exact hP' 86 113 rfl
  · exact hP' 87 114 rfl
  · exact hP' 88 115 rfl
  · exact hP' 89 116 rfl
  · exact hP' 90 117 rfl
  · exact hP' 91 118 rfl
  · exact hP' 92 119 rfl
  · exact hP' 93 120 rfl
  · exact hP' 94 121 rfl
  · exact hP' 95 122 rfl
  · exact hP' 96 123 rfl
  · exact hP' 97 124 rfl
  · exact hP' 98 125 rfl
  · exact hP' 99 126 rfl
  · exact hP' 100 127 rfl
  · exact hP' 101 128 rfl
  · exact hP' 102 129 rfl
  · exact hP' 103 130 rfl
  · exact hP' 104 131 rfl
  · exact hP' 105 132 rfl
  · exact hP' 106 133 rfl
  · exact hP' 107 134 rfl
  · exact hP' 108 135 rfl
  · exact hP' 109 136 rfl
  · exact hP' 110 137 rfl
  · exact hP' 111 138 rfl
  · exact hP' 112 139 rfl
  · exact hP' 113 140 rfl
  · exact hP' 114 141 rfl
  · exact hP' 115 142 rfl
  · exact hP' 116 143 rfl
  · exact hP' 117 144 rfl
  · exact hx145
  · exact hP' 119 146 rfl
  · exact hP' 120 147 rfl)
 clear hB' hP' hs' hd'; simp only [List.foldl_cons, List.foldl_nil, List.setIfInBounds_toArray, List.set_cons_succ, List.set_cons_zero] at ha'; subst ha'; clear hx145; apply h4
 clear h4 K4
 replace hX := hX.trans hE4
 clear hE4; obtain ⟨b, rfl, hb⟩ := IsFits.is r145; clear r145 HC hs0; have hlen : (fitsList m).length = 10 := rfl; have hdrop0 : fitsFrom ((fitsList m).drop 0) = fitsNum m := rfl; generalize hr : fitsNum m = R at *; generalize hfl : fitsList m = fl at *; have HF := Lib.hid hfl; clear hfl
 go_wp2_with fail; go_loopw [147] (fun i wr => ∃ k : Nat, k ≤ 10 ∧ i = .int .i64 k ∧ Ext w4 wr ∧ fitsFrom (fl.drop k) = R) (fun i _ => 10 - (intOf i).toNat)
 case atStart => exact ⟨0, by omega, rfl, Ext.refl _, hdrop0⟩
 case round =>
  obtain ⟨k, hk, rfl, hE, hh⟩ := hrel; have HH := Lib.hid hh; clear hh; by_cases hlt : k < 10
  · obtain ⟨⟨c, n⟩, hr⟩ : ∃ r, fl[k]? = some r := ⟨fl[k]'(by omega), List.getElem?_eq_getElem _⟩
    obtain ⟨q0, q1⟩ := fits_at m _ b (hE.heap hb) k c n (by rw [HF.out]; exact hr); have hd := List.drop_eq_getElem_cons (l := fl) (i := k) (by omega); rw [(List.getElem?_eq_some_iff.1 hr).2] at hd; have HD := Lib.hid hd; clear hd hr hb hdrop0; cases c with
    | true =>
     have e : R = n := by rw [← HH.out, HD.out]; rfl
     have E := Lib.hid e; clear e; go_wp2; go_ret; exact ⟨by rw [E.out]; rfl, (hX.trans hE).alloc _⟩
    | false =>
     have e : fitsFrom (fl.drop (k + 1)) = R := by rw [← HH.out, HD.out]; rfl
     have E := Lib.hid e; clear e; go_wp2; go_roundw
     case rel => exact ⟨k + 1, by omega, by go_num, hE.alloc _, E.out⟩
     case measure => simp [intOf]; omega
  · obtain rfl : k = 10 := by omega
    have e : R = 0 := by rw [← HH.out, ← hlen, List.drop_length]; rfl
    have E := Lib.hid e; clear e hdrop0; go_wp2; go_ret; exact ⟨by rw [E.out]; rfl, hX.trans hE⟩
end
end Go.Proofs.YtdmjinlgdkgoiaaGreatDoor
