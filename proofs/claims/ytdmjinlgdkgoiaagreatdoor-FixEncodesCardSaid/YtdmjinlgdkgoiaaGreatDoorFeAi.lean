/- Of the layer fix: MsgValid. -/
import Derived.Test.YtdmjinlgdkgoiaaGreatDoorFeAh
set_option linter.unusedVariables false
set_option linter.unusedSimpArgs false
set_option maxRecDepth 100000
namespace Go.Proofs.YtdmjinlgdkgoiaaGreatDoor
section
open Go Go.RowKit
set_option maxHeartbeats 400000
structure RowAt (w : World) (b k : Nat) (r : Row) (f1 : Nat) (c1 : Array Value) (f2 : Nat) (c2 : Array Value) : Prop where
 p0 : w.cell? ⟨b, k * 6, none⟩ = some (.int .i64 r.num)
 p1 : w.cell? ⟨b, k * 6 + 1, none⟩ = some (.func (.func f1) #[] c1)
 p2 : w.cell? ⟨b, k * 6 + 2, none⟩ = some (.func (.func f2) #[] c2)
 p3 : w.cell? ⟨b, k * 6 + 3, none⟩ = some (.bool r.zero)
 p4 : w.cell? ⟨b, k * 6 + 4, none⟩ = some (.int .u32 r.must)
 p5 : w.cell? ⟨b, k * 6 + 5, none⟩ = some (.int .u32 r.may)
 th : FnMsg w (.func (.func f1) #[] c1) (fun m => there m (k + 1))
 fi : FnMsg w (.func (.func f2) #[] c2) (fun m => fine m (k + 1) r)
theorem RowsFrom.sizes {w : World} : ∀ {k : Nat} {rs : List Row} {xs : List Value}, RowsFrom w k rs xs → ∀ x ∈ xs, x.cells.size = 6
 | _, [], [], h, x, hx => by cases hx
 | _, _ :: _, y :: _, h, x, hx => by
  rcases List.mem_cons.1 hx with rfl | hx
  · obtain ⟨a, c, rfl, _⟩ := h.1.is; rfl
  · exact RowsFrom.sizes h.2 x hx
 | _, [], _ :: _, h, _, _ => h.elim
 | _, _ :: _, [], h, _, _ => h.elim
theorem row_at {w : World} {b : Nat} {xs : List Value} (hR : RowsFrom w 1 rows xs) (hb : w.heap[b]? = some (.cells (flat xs).toArray 93)) {k : Nat} {r : Row} (hr : rows[k]? = some r) :
 ∃ f1 c1 f2 c2, RowAt w b k r f1 c1 f2 c2 := by
 obtain ⟨x, hx, hi⟩ := hR.at k r hr; obtain ⟨a, c, rfl, h1, h2⟩ := hi.is; rw [show 1 + k = k + 1 from by omega] at h1 h2; obtain ⟨f1, c1, rfl, _⟩ := id h1; obtain ⟨f2, c2, rfl, _⟩ := id h2; have hc : ∀ j, j < 6 → w.cell? ⟨b, k * 6 + j, none⟩ = (#[.int .i64 r.num, .func (.func f1) #[] c1, .func (.func f2) #[] c2, .bool r.zero, .int .u32 r.must, .int .u32 r.may] : Array Value)[j]? := by
  intro j hj; rw [cell_of_row w b _ _ _ (0, 0) hb]; have := flat_at 6 xs hR.sizes k j _ hx hj; rw [Nat.mul_comm] at this; simpa [Value.cells] using this
 exact ⟨f1, c1, f2, c2, hc 0 (by omega), hc 1 (by omega), hc 2 (by omega), hc 3 (by omega), hc 4 (by omega), hc 5 (by omega), h1, h2⟩
theorem RowAt.ext {w w' : World} {b k : Nat} {r : Row} {f1 : Nat} {c1 : Array Value} {f2 : Nat} {c2 : Array Value} (h : RowAt w b k r f1 c1 f2 c2) (hE : Ext w w') : RowAt w' b k r f1 c1 f2 c2 :=
 ⟨hE.cell h.p0, hE.cell h.p1, hE.cell h.p2, hE.cell h.p3, hE.cell h.p4, hE.cell h.p5, h.th.ext hE, h.fi.ext hE⟩
theorem rows_small : rows.all (fun r => decide (r.must < 4294967296) && decide (r.may < 4294967296)) = true := by decide
theorem row_small {k : Nat} {r : Row} (h : rows[k]? = some r) : r.must < 4294967296 ∧ r.may < 4294967296 := by
 have := List.all_eq_true.1 rows_small r (List.mem_of_getElem? h); simpa using this
theorem drop_row {k : Nat} {r : Row} (h : rows[k]? = some r) : rows.drop k = r :: rows.drop (k + 1) := by
 obtain ⟨hk, rfl⟩ := List.getElem?_eq_some_iff.1 h; exact List.drop_eq_getElem_cons hk
theorem hasM_calls (kind n : Int) (w : World) : Calls Tryz.prog 35 #[.int .i64 kind, .int .i64 n] w fun e w' => e = .returned (.int .i64 (has kind n)) ∧ Ext w w' := by
 have hX := Ext.refl w; have key : ∀ W : World, True := fun _ => trivial
 clear key; by_cases h0 : n = 35 ∧ isKind kind = true
 · obtain ⟨rfl, hk⟩ := h0; have e : has kind 35 = 2 := by simp [has, hk]
   rw [e]; have hs : inSet 262142 kind = true := by
    unfold inSet; rw [hk]; simp only [isKind, Bool.and_eq_true, decide_eq_true_eq] at hk; have hc : kind = 1 ∨ kind = 2 ∨ kind = 3 ∨ kind = 4 ∨ kind = 5 ∨ kind = 6 ∨ kind = 7 ∨ kind = 8 ∨ kind = 9 ∨ kind = 10 ∨ kind = 11 ∨ kind = 12 ∨ kind = 13 ∨ kind = 14 ∨ kind = 15 ∨ kind = 16 ∨ kind = 17 := by omega
    rcases hc with rfl | rfl | rfl | rfl | rfl | rfl | rfl | rfl | rfl | rfl | rfl | rfl | rfl | rfl | rfl | rfl | rfl <;> decide
   have HS := Lib.hid hs; clear e hs hk; go_enter Tryz.func35, Tryz.ntmps35
   go_wp2_with fail; refine (has_calls 262142 kind _ (by decide)).mono ?_; rw [HS.out]; rintro e w' ⟨rfl, rfl⟩; go_wp2; go_ret; exact ⟨rfl, hX⟩
 · have e : has kind n = hasIn kind n rows := by
    unfold has; rw [if_neg (by simpa using h0)]
   rw [e]; clear e; have hstart : (n == 35) = true ∧ inSet 262142 kind = false ∨ (n == 35) = false := by
    by_cases h : n = 35
    · left
      refine ⟨by simpa using h, ?_⟩; have : isKind kind = false := by
       by_cases hk : isKind kind = true
       · exact absurd ⟨h, hk⟩ h0
       · simpa using hk
      simp [inSet, this]
    · right; simpa using h
   clear h0; rcases hstart with ⟨h1, hs⟩ | h1
   case' inl =>
    have HS := Lib.hid hs; clear hs; go_enter Tryz.func35, Tryz.ntmps35
    go_wp2_with fail; refine (has_calls 262142 kind _ (by decide)).mono ?_; rw [HS.out]; rintro e w' ⟨rfl, rfl⟩; go_wp2_with fail
   case' inr =>
    go_enter Tryz.func35, Tryz.ntmps35
    go_wp2_with fail
   all_goals
    refine (table_calls _).mono ?_; rintro e w1 ⟨⟨v, rfl, hT⟩, hE⟩
    replace hX := hX.trans hE
    clear hE; obtain ⟨b, xs, rfl, hR, hb⟩ := hT.is; clear hT; go_wp2_with fail; go_loopw [15] (fun i wr => ∃ k : Nat, k ≤ 41 ∧ i = .int .i64 k ∧ Ext w1 wr ∧ hasIn kind n (rows.drop k) = hasIn kind n rows) (fun i _ => 41 - (intOf i).toNat)
    case atStart => exact ⟨0, by omega, rfl, Ext.refl _, rfl⟩
    case round =>
     obtain ⟨k, hk, rfl, hE, hh⟩ := hrel; have HH := Lib.hid hh; clear hh; by_cases hlt : k < 41
     · obtain ⟨r, hr⟩ : ∃ r, rows[k]? = some r := ⟨rows[k]'hlt, List.getElem?_eq_getElem _⟩
       obtain ⟨f1, c1, f2, c2, ha⟩ := row_at (hR.ext hE) (hE.heap hb) hr; obtain ⟨q0, q1, q2, q3, q4, q5, _, _⟩ := ha; have hsm := row_small hr; have HD := Lib.hid (drop_row hr); have HM := Lib.hid hsm; clear hr hR hb hsm; by_cases h2 : r.num = n
       · have h2 : (r.num != n) = false := by simpa using h2
         by_cases h3 : inSet r.must kind = true
         · have e : hasIn kind n rows = 2 := by rw [← HH.out, HD.out]; simp [hasIn, h2, h3]
           have H3 := Lib.hid h3; have E := Lib.hid e; clear h3 e; go_wp2_with (first | (go_at_call 43; refine (has_calls r.must kind _ HM.out.1).mono ?_; rw [H3.out]; rintro e w' ⟨rfl, rfl⟩)); go_ret; exact ⟨by rw [E.out]; rfl, (hX.trans hE).alloc _⟩
         · have h3 : inSet r.must kind = false := by simpa using h3
           by_cases h4 : inSet r.may kind = true
           · have e : hasIn kind n rows = 1 := by rw [← HH.out, HD.out]; simp [hasIn, h2, h3, h4]
             have H3 := Lib.hid h3; have H4 := Lib.hid h4; have E := Lib.hid e; clear h3 h4 e; go_wp2_with fail; refine (has_calls r.must kind _ HM.out.1).mono ?_; rw [H3.out]; rintro e w' ⟨rfl, rfl⟩; go_wp2_with fail; refine (has_calls r.may kind _ HM.out.2).mono ?_; rw [H4.out]; rintro e w' ⟨rfl, rfl⟩; go_wp2; go_ret; exact ⟨by rw [E.out]; rfl, (hX.trans hE).alloc _⟩
           · have h4 : inSet r.may kind = false := by simpa using h4
             have e : hasIn kind n (rows.drop (k + 1)) = hasIn kind n rows := by rw [← HH.out, HD.out]; simp [hasIn, h2, h3, h4]
             have H3 := Lib.hid h3; have H4 := Lib.hid h4; have E := Lib.hid e; clear h3 h4 e; go_wp2_with fail; refine (has_calls r.must kind _ HM.out.1).mono ?_; rw [H3.out]; rintro e w' ⟨rfl, rfl⟩; go_wp2_with fail; refine (has_calls r.may kind _ HM.out.2).mono ?_; rw [H4.out]; rintro e w' ⟨rfl, rfl⟩; go_wp2; go_roundw
             case rel => exact ⟨k + 1, by omega, by go_num, hE.alloc _, E.out⟩
             case measure => simp [intOf]; omega
       · have h2 : (r.num != n) = true := by simpa using h2
         have e : hasIn kind n (rows.drop (k + 1)) = hasIn kind n rows := by rw [← HH.out, HD.out]; simp [hasIn, h2]
         have E := Lib.hid e; clear e; go_wp2_with fail; go_roundw
         case rel => exact ⟨k + 1, by omega, by go_num, hE.alloc _, E.out⟩
         case measure => simp [intOf]; omega
     · obtain rfl : k = 41 := by omega
       have e : hasIn kind n rows = 0 := by rw [← HH.out]; rfl
       have E := Lib.hid e; clear e; go_wp2; go_ret; exact ⟨by rw [E.out]; rfl, hX.trans hE⟩
end
end Go.Proofs.YtdmjinlgdkgoiaaGreatDoor
