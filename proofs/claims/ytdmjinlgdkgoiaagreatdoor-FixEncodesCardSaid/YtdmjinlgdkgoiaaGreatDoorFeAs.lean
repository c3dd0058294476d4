/- Of the layer fix: Slots2, Find, Find2, Written, Encode, Known, Fits, Rel. -/
import Derived.Test.YtdmjinlgdkgoiaaGreatDoorFeAi
import Derived.Test.YtdmjinlgdkgoiaaGreatDoorFeAo
import Derived.Test.YtdmjinlgdkgoiaaGreatDoorFeAr
import Derived.Laws.Tables
set_option linter.unusedVariables false
set_option linter.unusedSimpArgs false
set_option maxRecDepth 100000
namespace Go.Proofs.YtdmjinlgdkgoiaaGreatDoor
section
open Go Go.RowKit
set_option maxHeartbeats 12800000
theorem hasIn_cases (kind n : Int) (l : List Row) : hasIn kind n l = 0 ∨ hasIn kind n l = 1 ∨ hasIn kind n l = 2 := by
 induction l with
 | nil => exact Or.inl rfl
 | cons r l ih =>
  unfold hasIn; split
  · exact ih
  · split
    · exact Or.inr (Or.inr rfl)
    · split
      · exact Or.inr (Or.inl rfl)
      · exact ih
theorem has_cases (kind n : Int) : has kind n = 0 ∨ has kind n = 1 ∨ has kind n = 2 := by
 unfold has; split
 · exact Or.inr (Or.inr rfl)
 · exact hasIn_cases kind n rows
theorem ite_one {α : Type} (c : Prop) [Decidable c] (x : α) : (if c then [x] else []).length ≤ 1 := by split <;> simp
theorem slotsAt_len (kind n : Int) : (slotsAt kind n).length ≤ 3 := by
 unfold slotsAt; rw [List.length_append, List.length_append]; exact Nat.add_le_add (Nat.add_le_add (ite_one _ _) (ite_one _ _)) (ite_one _ _)
def soFar (kind : Int) (k : Nat) : List Slot := (numbered.take k).flatMap (slotsAt kind)
theorem soFar_len (kind : Int) (k : Nat) : (soFar kind k).length ≤ 3 * k := by
 have : ∀ l : List Int, (l.flatMap (slotsAt kind)).length ≤ 3 * l.length := by
  intro l
  induction l with
  | nil => simp
  | cons n l ih => have := slotsAt_len kind n; simp only [List.flatMap_cons, List.length_append, List.length_cons]; omega
 have h1 := this (numbered.take k); have h2 : (numbered.take k).length ≤ k := List.length_take_le _ _; unfold soFar; omega
theorem soFar_succ (kind : Int) {k : Nat} (h : k < numbered.length) : soFar kind (k + 1) = soFar kind k ++ slotsAt kind numbered[k] := by
 unfold soFar; rw [List.take_succ_eq_append_getElem h, List.flatMap_append]; simp
structure SlotsSay (W w' : World) (e : Ending) (l : List Slot) : Prop where
 is : ∃ v, e = .returned v ∧ OwnSl w' W.heap.size v l
theorem slots_calls (kind : Int) (w : World) : Calls Tryz.prog 38 #[.int .i64 kind] w fun e w' => SlotsSay w w' e (slotsOf kind) ∧ Ext w w' := by
 obtain ⟨R, hR⟩ : ∃ R, slotsOf kind = R := ⟨_, rfl⟩
 rw [hR]; have HRR := Lib.hid hR; clear hR; have hnl : numbered.length = 42 := by decide
 have HNL := Lib.hid hnl; have HS := Lib.hid (scoped_calls kind); clear hnl; go_enter Tryz.func38, Tryz.ntmps38
 go_wp2_with fail; refine (numbered_calls _).mono ?_; rintro e w1 ⟨rfl, hI, hE1, hlt1⟩; have HI := Lib.hid hI; have HE1 := Lib.hid hE1; clear hI hE1 hlt1; generalize hg : w.heap.size = g at HI ⊢; have HG := Lib.hid hg; clear hg; go_wp2_with fail; go_loopw [3, 10] (fun v i wr => ∃ k : Nat, k ≤ 42 ∧ i = .int .i64 k ∧ OwnSl wr w1.heap.size v (soFar kind k) ∧ Ext w1 wr) (fun _ i _ => 42 - (intOf i).toNat)
 case atStart => exact ⟨0, by omega, rfl, OwnSl.nil _ _, Ext.refl _⟩
 case round =>
  obtain ⟨k, hk, rfl, hown, hX⟩ := hrel; have HOWN := Lib.hid hown; have HX := Lib.hid hX; clear hown; by_cases hlt : k < 42
  · have hkl : k < numbered.length := by rw [HNL.out]; exact hlt
    have hcell := hX.cell (HI.out k hkl); have hsucc := soFar_succ kind hkl; have hlen := soFar_len kind k; generalize numbered[k] = n at *; have HSUCC := Lib.hid hsucc; have HLEN : RowKit.Hid ((soFar kind k).length ≤ 126) := Lib.hid (by omega); clear hsucc hlen hX; generalize soFar kind k = l at *; obtain ⟨h, hh⟩ : ∃ h, has kind n = h := ⟨_, rfl⟩
    have hc3 : h = 0 ∨ h = 1 ∨ h = 2 := by rw [← hh]; exact has_cases kind n
    have HH := Lib.hid hh; clear hh; have hn4 : n = 108 ∨ n = 373 ∨ n = 59 ∨ ((n == 108) = false ∧ (n == 373) = false ∧ (n == 59) = false) := by
     by_cases h1 : n = 108
     · exact Or.inl h1
     · by_cases h2 : n = 373
       · exact Or.inr (Or.inl h2)
       · by_cases h3 : n = 59
         · exact Or.inr (Or.inr (Or.inl h3))
         · exact Or.inr (Or.inr (Or.inr ⟨by simpa using h1, by simpa using h2, by simpa using h3⟩))
    rcases hn4 with rfl | rfl | rfl | ⟨n1, n2, n3⟩
    · rcases hc3 with rfl | rfl | rfl
      · cases h7 : kind == 7 with
        | true =>
         have H7 := Lib.hid h7; go_wp2_with (first | (at_builtin; refine wpList_slot (W := w1) (.tmp 20) (.tmp 22) rfl rfl _ (l) rfl HOWN.out HX.out ⟨98, 0, true⟩ rfl (by have := HLEN.out; (try simp only [List.length_append, List.length_cons, List.length_nil]); omega) ?_; intro v1 u1 hown1 hx1; have HOWN1 := Lib.hid hown1; have HX1 := Lib.hid hx1; clear hown1 hx1)); refine (hasM_calls kind 108 _).mono ?_; rw [HH.out]; rintro e t1 ⟨rfl, hE3⟩; have HO3 := Lib.hid (OwnSl.ext (HOWN1.out) hE3); have HX3 := Lib.hid (Ext.trans (HX1.out) hE3); clear hE3; go_wp2; go_roundw
         case rel => exact ⟨k + 1, by omega, by go_num, by rw [HSUCC.out]; have e : slotsAt kind 108 = [⟨98, 0, true⟩] := (by unfold slotsAt; rw [HH.out]; simp [H7.out]); rw [e]; simpa using HO3.out, HX3.out⟩
         case measure => simp [intOf]; omega
        | false =>
         have H7 := Lib.hid h7; go_wp2_with fail; refine (hasM_calls kind 108 _).mono ?_; rw [HH.out]; rintro e t1 ⟨rfl, hE3⟩; have HO3 := Lib.hid (OwnSl.ext (HOWN.out) hE3); have HX3 := Lib.hid (Ext.trans (HX.out) hE3); clear hE3; go_wp2; go_roundw
         case rel => exact ⟨k + 1, by omega, by go_num, by rw [HSUCC.out]; have e : slotsAt kind 108 = [] := (by unfold slotsAt; rw [HH.out]; simp [H7.out]); rw [e]; simpa using HO3.out, HX3.out⟩
         case measure => simp [intOf]; omega
      · cases h7 : kind == 7 with
        | true =>
         have H7 := Lib.hid h7; go_wp2_with (first | (at_builtin; refine wpList_slot (W := w1) (.tmp 20) (.tmp 22) rfl rfl _ (l) rfl HOWN.out HX.out ⟨98, 0, true⟩ rfl (by have := HLEN.out; (try simp only [List.length_append, List.length_cons, List.length_nil]); omega) ?_; intro v1 u1 hown1 hx1; have HOWN1 := Lib.hid hown1; have HX1 := Lib.hid hx1; clear hown1 hx1)); refine (hasM_calls kind 108 _).mono ?_; rw [HH.out]; rintro e t1 ⟨rfl, hE3⟩; have HO3 := Lib.hid (OwnSl.ext (HOWN1.out) hE3); have HX3 := Lib.hid (Ext.trans (HX1.out) hE3); clear hE3; go_wp2_with (first | (at_builtin; refine wpList_slot (W := w1) (.tmp 34) (.tmp 40) rfl rfl _ (l ++ [⟨98, 0, true⟩]) rfl HO3.out HX3.out ⟨108, 108, false⟩ rfl (by have := HLEN.out; (try simp only [List.length_append, List.length_cons, List.length_nil]); omega) ?_; intro v2 u2 hown2 hx2; have HOWN2 := Lib.hid hown2; have HX2 := Lib.hid hx2; clear hown2 hx2)); go_roundw
         case rel => exact ⟨k + 1, by omega, by go_num, by rw [HSUCC.out]; have e : slotsAt kind 108 = [⟨98, 0, true⟩, ⟨108, 108, false⟩] := (by unfold slotsAt; rw [HH.out]; simp [H7.out]); rw [e]; simpa using HOWN2.out, HX2.out⟩
         case measure => simp [intOf]; omega
        | false =>
         have H7 := Lib.hid h7; go_wp2_with fail; refine (hasM_calls kind 108 _).mono ?_; rw [HH.out]; rintro e t1 ⟨rfl, hE3⟩; have HO3 := Lib.hid (OwnSl.ext (HOWN.out) hE3); have HX3 := Lib.hid (Ext.trans (HX.out) hE3); clear hE3; go_wp2_with (first | (at_builtin; refine wpList_slot (W := w1) (.tmp 34) (.tmp 40) rfl rfl _ (l) rfl HO3.out HX3.out ⟨108, 108, false⟩ rfl (by have := HLEN.out; (try simp only [List.length_append, List.length_cons, List.length_nil]); omega) ?_; intro v1 u1 hown1 hx1; have HOWN1 := Lib.hid hown1; have HX1 := Lib.hid hx1; clear hown1 hx1)); go_roundw
         case rel => exact ⟨k + 1, by omega, by go_num, by rw [HSUCC.out]; have e : slotsAt kind 108 = [⟨108, 108, false⟩] := (by unfold slotsAt; rw [HH.out]; simp [H7.out]); rw [e]; simpa using HOWN1.out, HX1.out⟩
         case measure => simp [intOf]; omega
      · cases h7 : kind == 7 with
        | true =>
         have H7 := Lib.hid h7; go_wp2_with (first | (at_builtin; refine wpList_slot (W := w1) (.tmp 20) (.tmp 22) rfl rfl _ (l) rfl HOWN.out HX.out ⟨98, 0, true⟩ rfl (by have := HLEN.out; (try simp only [List.length_append, List.length_cons, List.length_nil]); omega) ?_; intro v1 u1 hown1 hx1; have HOWN1 := Lib.hid hown1; have HX1 := Lib.hid hx1; clear hown1 hx1)); refine (hasM_calls kind 108 _).mono ?_; rw [HH.out]; rintro e t1 ⟨rfl, hE3⟩; have HO3 := Lib.hid (OwnSl.ext (HOWN1.out) hE3); have HX3 := Lib.hid (Ext.trans (HX1.out) hE3); clear hE3; go_wp2_with (first | (at_builtin; refine wpList_slot (W := w1) (.tmp 34) (.tmp 40) rfl rfl _ (l ++ [⟨98, 0, true⟩]) rfl HO3.out HX3.out ⟨108, 108, true⟩ rfl (by have := HLEN.out; (try simp only [List.length_append, List.length_cons, List.length_nil]); omega) ?_; intro v2 u2 hown2 hx2; have HOWN2 := Lib.hid hown2; have HX2 := Lib.hid hx2; clear hown2 hx2)); go_roundw
         case rel => exact ⟨k + 1, by omega, by go_num, by rw [HSUCC.out]; have e : slotsAt kind 108 = [⟨98, 0, true⟩, ⟨108, 108, true⟩] := (by unfold slotsAt; rw [HH.out]; simp [H7.out]); rw [e]; simpa using HOWN2.out, HX2.out⟩
         case measure => simp [intOf]; omega
        | false =>
         have H7 := Lib.hid h7; go_wp2_with fail; refine (hasM_calls kind 108 _).mono ?_; rw [HH.out]; rintro e t1 ⟨rfl, hE3⟩; have HO3 := Lib.hid (OwnSl.ext (HOWN.out) hE3); have HX3 := Lib.hid (Ext.trans (HX.out) hE3); clear hE3; go_wp2_with (first | (at_builtin; refine wpList_slot (W := w1) (.tmp 34) (.tmp 40) rfl rfl _ (l) rfl HO3.out HX3.out ⟨108, 108, true⟩ rfl (by have := HLEN.out; (try simp only [List.length_append, List.length_cons, List.length_nil]); omega) ?_; intro v1 u1 hown1 hx1; have HOWN1 := Lib.hid hown1; have HX1 := Lib.hid hx1; clear hown1 hx1)); go_roundw
         case rel => exact ⟨k + 1, by omega, by go_num, by rw [HSUCC.out]; have e : slotsAt kind 108 = [⟨108, 108, true⟩] := (by unfold slotsAt; rw [HH.out]; simp [H7.out]); rw [e]; simpa using HOWN1.out, HX1.out⟩
         case measure => simp [intOf]; omega
    · rcases hc3 with rfl | rfl | rfl
      · go_wp2_with fail; refine (hasM_calls kind 373 _).mono ?_; rw [HH.out]; rintro e t1 ⟨rfl, hE3⟩; have HO3 := Lib.hid (OwnSl.ext (HOWN.out) hE3); have HX3 := Lib.hid (Ext.trans (HX.out) hE3); clear hE3; go_wp2; go_roundw
        case rel => exact ⟨k + 1, by omega, by go_num, by rw [HSUCC.out]; have e : slotsAt kind 373 = [] := (by unfold slotsAt; rw [HH.out]; simp); rw [e]; simpa using HO3.out, HX3.out⟩
        case measure => simp [intOf]; omega
      · go_wp2_with fail; refine (hasM_calls kind 373 _).mono ?_; rw [HH.out]; rintro e t1 ⟨rfl, hE3⟩; have HO3 := Lib.hid (OwnSl.ext (HOWN.out) hE3); have HX3 := Lib.hid (Ext.trans (HX.out) hE3); clear hE3; go_wp2_with fail; refine (reasonTag_calls kind _).mono ?_; rintro e t2 ⟨rfl, rfl⟩; go_wp2_with (first | (at_builtin; refine wpList_slot (W := w1) (.tmp 34) (.tmp 40) rfl rfl _ (l) rfl HO3.out HX3.out ⟨reasonTag kind, 373, false⟩ rfl (by have := HLEN.out; (try simp only [List.length_append, List.length_cons, List.length_nil]); omega) ?_; intro v1 u1 hown1 hx1; have HOWN1 := Lib.hid hown1; have HX1 := Lib.hid hx1; clear hown1 hx1)); go_roundw
        case rel => exact ⟨k + 1, by omega, by go_num, by rw [HSUCC.out]; have e : slotsAt kind 373 = [⟨reasonTag kind, 373, false⟩] := (by unfold slotsAt; rw [HH.out]; simp); rw [e]; simpa using HOWN1.out, HX1.out⟩
        case measure => simp [intOf]; omega
      · go_wp2_with fail; refine (hasM_calls kind 373 _).mono ?_; rw [HH.out]; rintro e t1 ⟨rfl, hE3⟩; have HO3 := Lib.hid (OwnSl.ext (HOWN.out) hE3); have HX3 := Lib.hid (Ext.trans (HX.out) hE3); clear hE3; go_wp2_with fail; refine (reasonTag_calls kind _).mono ?_; rintro e t2 ⟨rfl, rfl⟩; go_wp2_with (first | (at_builtin; refine wpList_slot (W := w1) (.tmp 34) (.tmp 40) rfl rfl _ (l) rfl HO3.out HX3.out ⟨reasonTag kind, 373, true⟩ rfl (by have := HLEN.out; (try simp only [List.length_append, List.length_cons, List.length_nil]); omega) ?_; intro v1 u1 hown1 hx1; have HOWN1 := Lib.hid hown1; have HX1 := Lib.hid hx1; clear hown1 hx1)); go_roundw
        case rel => exact ⟨k + 1, by omega, by go_num, by rw [HSUCC.out]; have e : slotsAt kind 373 = [⟨reasonTag kind, 373, true⟩] := (by unfold slotsAt; rw [HH.out]; simp); rw [e]; simpa using HOWN1.out, HX1.out⟩
        case measure => simp [intOf]; omega
    · rcases hc3 with rfl | rfl | rfl
      · cases ho : orders kind with
        | true =>
         have HORD := Lib.hid ho; clear ho; go_wp2_with fail; refine (hasM_calls kind 59 _).mono ?_; rw [HH.out]; rintro e t1 ⟨rfl, hE3⟩; have HO3 := Lib.hid (OwnSl.ext (HOWN.out) hE3); have HX3 := Lib.hid (Ext.trans (HX.out) hE3); clear hE3; go_wp2_with fail; refine (orders_calls kind _).mono ?_; rw [HORD.out]; rintro e t3 ⟨rfl, rfl⟩; go_wp2_with (first | (at_builtin; refine wpList_slot (W := w1) (.tmp 48) (.tmp 50) rfl rfl _ (l) rfl HO3.out HX3.out ⟨18, 0, false⟩ rfl (by have := HLEN.out; (try simp only [List.length_append, List.length_cons, List.length_nil]); omega) ?_; intro v1 u1 hown1 hx1; have HOWN1 := Lib.hid hown1; have HX1 := Lib.hid hx1; clear hown1 hx1)); go_roundw
         case rel => exact ⟨k + 1, by omega, by go_num, by rw [HSUCC.out]; have e : slotsAt kind 59 = [⟨18, 0, false⟩] := (by unfold slotsAt; rw [HH.out]; simp [HORD.out]); rw [e]; simpa using HOWN1.out, HX1.out⟩
         case measure => simp [intOf]; omega
        | false =>
         have HORD := Lib.hid ho; clear ho; go_wp2_with fail; refine (hasM_calls kind 59 _).mono ?_; rw [HH.out]; rintro e t1 ⟨rfl, hE3⟩; have HO3 := Lib.hid (OwnSl.ext (HOWN.out) hE3); have HX3 := Lib.hid (Ext.trans (HX.out) hE3); clear hE3; go_wp2_with fail; refine (orders_calls kind _).mono ?_; rw [HORD.out]; rintro e t3 ⟨rfl, rfl⟩; go_wp2; go_roundw
         case rel => exact ⟨k + 1, by omega, by go_num, by rw [HSUCC.out]; have e : slotsAt kind 59 = [] := (by unfold slotsAt; rw [HH.out]; simp [HORD.out]); rw [e]; simpa using HO3.out, HX3.out⟩
         case measure => simp [intOf]; omega
      · cases ho : orders kind with
        | true =>
         have HORD := Lib.hid ho; clear ho; go_wp2_with fail; refine (hasM_calls kind 59 _).mono ?_; rw [HH.out]; rintro e t1 ⟨rfl, hE3⟩; have HO3 := Lib.hid (OwnSl.ext (HOWN.out) hE3); have HX3 := Lib.hid (Ext.trans (HX.out) hE3); clear hE3; go_wp2_with (first | (at_builtin; refine wpList_slot (W := w1) (.tmp 34) (.tmp 40) rfl rfl _ (l) rfl HO3.out HX3.out ⟨59, 59, false⟩ rfl (by have := HLEN.out; (try simp only [List.length_append, List.length_cons, List.length_nil]); omega) ?_; intro v1 u1 hown1 hx1; have HOWN1 := Lib.hid hown1; have HX1 := Lib.hid hx1; clear hown1 hx1)); refine (orders_calls kind _).mono ?_; rw [HORD.out]; rintro e t3 ⟨rfl, rfl⟩; go_wp2_with (first | (at_builtin; refine wpList_slot (W := w1) (.tmp 48) (.tmp 50) rfl rfl _ (l ++ [⟨59, 59, false⟩]) rfl HOWN1.out HX1.out ⟨18, 0, false⟩ rfl (by have := HLEN.out; (try simp only [List.length_append, List.length_cons, List.length_nil]); omega) ?_; intro v2 u2 hown2 hx2; have HOWN2 := Lib.hid hown2; have HX2 := Lib.hid hx2; clear hown2 hx2)); go_roundw
         case rel => exact ⟨k + 1, by omega, by go_num, by rw [HSUCC.out]; have e : slotsAt kind 59 = [⟨59, 59, false⟩, ⟨18, 0, false⟩] := (by unfold slotsAt; rw [HH.out]; simp [HORD.out]); rw [e]; simpa using HOWN2.out, HX2.out⟩
         case measure => simp [intOf]; omega
        | false =>
         have HORD := Lib.hid ho; clear ho; go_wp2_with fail; refine (hasM_calls kind 59 _).mono ?_; rw [HH.out]; rintro e t1 ⟨rfl, hE3⟩; have HO3 := Lib.hid (OwnSl.ext (HOWN.out) hE3); have HX3 := Lib.hid (Ext.trans (HX.out) hE3); clear hE3; go_wp2_with (first | (at_builtin; refine wpList_slot (W := w1) (.tmp 34) (.tmp 40) rfl rfl _ (l) rfl HO3.out HX3.out ⟨59, 59, false⟩ rfl (by have := HLEN.out; (try simp only [List.length_append, List.length_cons, List.length_nil]); omega) ?_; intro v1 u1 hown1 hx1; have HOWN1 := Lib.hid hown1; have HX1 := Lib.hid hx1; clear hown1 hx1)); refine (orders_calls kind _).mono ?_; rw [HORD.out]; rintro e t3 ⟨rfl, rfl⟩; go_wp2; go_roundw
         case rel => exact ⟨k + 1, by omega, by go_num, by rw [HSUCC.out]; have e : slotsAt kind 59 = [⟨59, 59, false⟩] := (by unfold slotsAt; rw [HH.out]; simp [HORD.out]); rw [e]; simpa using HOWN1.out, HX1.out⟩
         case measure => simp [intOf]; omega
      · cases ho : orders kind with
        | true =>
         have HORD := Lib.hid ho; clear ho; go_wp2_with fail; refine (hasM_calls kind 59 _).mono ?_; rw [HH.out]; rintro e t1 ⟨rfl, hE3⟩; have HO3 := Lib.hid (OwnSl.ext (HOWN.out) hE3); have HX3 := Lib.hid (Ext.trans (HX.out) hE3); clear hE3; go_wp2_with (first | (at_builtin; refine wpList_slot (W := w1) (.tmp 34) (.tmp 40) rfl rfl _ (l) rfl HO3.out HX3.out ⟨59, 59, true⟩ rfl (by have := HLEN.out; (try simp only [List.length_append, List.length_cons, List.length_nil]); omega) ?_; intro v1 u1 hown1 hx1; have HOWN1 := Lib.hid hown1; have HX1 := Lib.hid hx1; clear hown1 hx1)); refine (orders_calls kind _).mono ?_; rw [HORD.out]; rintro e t3 ⟨rfl, rfl⟩; go_wp2_with (first | (at_builtin; refine wpList_slot (W := w1) (.tmp 48) (.tmp 50) rfl rfl _ (l ++ [⟨59, 59, true⟩]) rfl HOWN1.out HX1.out ⟨18, 0, false⟩ rfl (by have := HLEN.out; (try simp only [List.length_append, List.length_cons, List.length_nil]); omega) ?_; intro v2 u2 hown2 hx2; have HOWN2 := Lib.hid hown2; have HX2 := Lib.hid hx2; clear hown2 hx2)); go_roundw
         case rel => exact ⟨k + 1, by omega, by go_num, by rw [HSUCC.out]; have e : slotsAt kind 59 = [⟨59, 59, true⟩, ⟨18, 0, false⟩] := (by unfold slotsAt; rw [HH.out]; simp [HORD.out]); rw [e]; simpa using HOWN2.out, HX2.out⟩
         case measure => simp [intOf]; omega
        | false =>
         have HORD := Lib.hid ho; clear ho; go_wp2_with fail; refine (hasM_calls kind 59 _).mono ?_; rw [HH.out]; rintro e t1 ⟨rfl, hE3⟩; have HO3 := Lib.hid (OwnSl.ext (HOWN.out) hE3); have HX3 := Lib.hid (Ext.trans (HX.out) hE3); clear hE3; go_wp2_with (first | (at_builtin; refine wpList_slot (W := w1) (.tmp 34) (.tmp 40) rfl rfl _ (l) rfl HO3.out HX3.out ⟨59, 59, true⟩ rfl (by have := HLEN.out; (try simp only [List.length_append, List.length_cons, List.length_nil]); omega) ?_; intro v1 u1 hown1 hx1; have HOWN1 := Lib.hid hown1; have HX1 := Lib.hid hx1; clear hown1 hx1)); refine (orders_calls kind _).mono ?_; rw [HORD.out]; rintro e t3 ⟨rfl, rfl⟩; go_wp2; go_roundw
         case rel => exact ⟨k + 1, by omega, by go_num, by rw [HSUCC.out]; have e : slotsAt kind 59 = [⟨59, 59, true⟩] := (by unfold slotsAt; rw [HH.out]; simp [HORD.out]); rw [e]; simpa using HOWN1.out, HX1.out⟩
         case measure => simp [intOf]; omega
    · rcases hc3 with rfl | rfl | rfl
      · go_wp2_with fail; refine (hasM_calls kind n _).mono ?_; rw [HH.out]; rintro e t1 ⟨rfl, hE3⟩; have HO3 := Lib.hid (OwnSl.ext (HOWN.out) hE3); have HX3 := Lib.hid (Ext.trans (HX.out) hE3); clear hE3; go_wp2; go_roundw
        case rel => exact ⟨k + 1, by omega, by go_num, by rw [HSUCC.out]; have e : slotsAt kind n = [] := (by unfold slotsAt; rw [HH.out]; simp [n1, n2, n3]); rw [e]; simpa using HO3.out, HX3.out⟩
        case measure => simp [intOf]; omega
      · go_wp2_with fail; refine (hasM_calls kind n _).mono ?_; rw [HH.out]; rintro e t1 ⟨rfl, hE3⟩; have HO3 := Lib.hid (OwnSl.ext (HOWN.out) hE3); have HX3 := Lib.hid (Ext.trans (HX.out) hE3); clear hE3; go_wp2_with (first | (at_builtin; refine wpList_slot (W := w1) (.tmp 34) (.tmp 40) rfl rfl _ (l) rfl HO3.out HX3.out ⟨n, n, false⟩ rfl (by have := HLEN.out; (try simp only [List.length_append, List.length_cons, List.length_nil]); omega) ?_; intro v1 u1 hown1 hx1; have HOWN1 := Lib.hid hown1; have HX1 := Lib.hid hx1; clear hown1 hx1)); go_roundw
        case rel => exact ⟨k + 1, by omega, by go_num, by rw [HSUCC.out]; have e : slotsAt kind n = [⟨n, n, false⟩] := (by unfold slotsAt; rw [HH.out]; simp [n1, n2, n3]); rw [e]; simpa using HOWN1.out, HX1.out⟩
        case measure => simp [intOf]; omega
      · go_wp2_with fail; refine (hasM_calls kind n _).mono ?_; rw [HH.out]; rintro e t1 ⟨rfl, hE3⟩; have HO3 := Lib.hid (OwnSl.ext (HOWN.out) hE3); have HX3 := Lib.hid (Ext.trans (HX.out) hE3); clear hE3; go_wp2_with (first | (at_builtin; refine wpList_slot (W := w1) (.tmp 34) (.tmp 40) rfl rfl _ (l) rfl HO3.out HX3.out ⟨n, n, true⟩ rfl (by have := HLEN.out; (try simp only [List.length_append, List.length_cons, List.length_nil]); omega) ?_; intro v1 u1 hown1 hx1; have HOWN1 := Lib.hid hown1; have HX1 := Lib.hid hx1; clear hown1 hx1)); go_roundw
        case rel => exact ⟨k + 1, by omega, by go_num, by rw [HSUCC.out]; have e : slotsAt kind n = [⟨n, n, true⟩] := (by unfold slotsAt; rw [HH.out]; simp [n1, n2, n3]); rw [e]; simpa using HOWN1.out, HX1.out⟩
        case measure => simp [intOf]; omega
  · clear hX; obtain rfl : k = 42 := by omega
    have hall : soFar kind 42 = numbered.flatMap (slotsAt kind) := by unfold soFar; rw [List.take_of_length_le (by rw [HNL.out]; omega)]
    have hlen := soFar_len kind 42; have HLEN : RowKit.Hid ((soFar kind 42).length ≤ 126) := Lib.hid (by omega); have HALL := Lib.hid hall; clear hlen hall; generalize soFar kind 42 = l at *; cases hs : hasScope kind with
    | true =>
     have hfin : R = l ++ [⟨530, 0, true⟩] := by rw [← HRR.out]; unfold slotsOf; rw [hs, HALL.out]; rfl
     subst hfin; have HSC := Lib.hid hs; clear hs; go_wp2_with fail; refine (HS.out _).mono ?_; rw [HSC.out]; rintro e w2 ⟨rfl, rfl⟩; go_wp2_with (first | (at_builtin; refine wpList_slot (W := w1) (.tmp 55) (.tmp 57) rfl rfl _ l rfl HOWN.out HX.out ⟨530, 0, true⟩ rfl (by have := HLEN.out; omega) ?_; intro v1 w3 hown1 hx1)); go_ret; exact ⟨⟨_, rfl, hown1.more HE1.out.size⟩, HE1.out.trans hx1⟩
    | false =>
     have hfin : R = l := by rw [← HRR.out]; unfold slotsOf; rw [hs, HALL.out]; simp
     subst hfin; have HSC := Lib.hid hs; clear hs; go_wp2_with fail; refine (HS.out _).mono ?_; rw [HSC.out]; rintro e w2 ⟨rfl, rfl⟩; go_wp2; go_ret; exact ⟨⟨_, rfl, HOWN.out.more HE1.out.size⟩, HE1.out.trans HX.out⟩
end
section
open Go Go.RowKit
set_option maxHeartbeats 3200000
attribute [local go_sem] ba_get
def SlotsAt (w : World) (b : Nat) (l : List Slot) : Prop := ∀ (k : Nat) (h : k < l.length), w.cell? ⟨b, k * 3, none⟩ = some (.int .i64 (l[k]).tag) ∧ w.cell? ⟨b, k * 3 + 1, none⟩ = some (.int .i64 (l[k]).num) ∧ w.cell? ⟨b, k * 3 + 2, none⟩ = some (.bool (l[k]).must)
theorem SlotsAt.ext {w w' : World} {b : Nat} {l : List Slot} (h : SlotsAt w b l) (hE : Ext w w') : SlotsAt w' b l := fun k hk => ⟨hE.cell (h k hk).1, hE.cell (h k hk).2.1, hE.cell (h k hk).2.2⟩
structure SlotsIn (w : World) (v : Value) (l : List Slot) : Prop where
 is : ∃ A cap, v = .slice A l.length cap ∧ (l ≠ [] → ∃ b, A = some ⟨b, 0, none⟩ ∧ SlotsAt w b l)
structure FldsIn (w : World) (v : Value) (l : List Fld) : Prop where
 is : ∃ A cap, v = .slice A l.length cap ∧ (l ≠ [] → ∃ b, A = some ⟨b, 0, none⟩ ∧ FieldsAt w b l)
theorem SlotsIn.ext {w w' : World} {v : Value} {l : List Slot} (h : SlotsIn w v l) (hE : Ext w w') : SlotsIn w' v l := by
 obtain ⟨A, cap, e, h1⟩ := h.is; exact ⟨A, cap, e, fun hne => by obtain ⟨b, h2, h3⟩ := h1 hne; exact ⟨b, h2, h3.ext hE⟩⟩
theorem FldsIn.ext {w w' : World} {v : Value} {l : List Fld} (h : FldsIn w v l) (hE : Ext w w') : FldsIn w' v l := by
 obtain ⟨A, cap, e, h1⟩ := h.is; exact ⟨A, cap, e, fun hne => by obtain ⟨b, h2, h3⟩ := h1 hne; exact ⟨b, h2, h3.ext hE⟩⟩
theorem OwnSl.reads {w : World} {base : Nat} {v : Value} {l : List Slot} (h : OwnSl w base v l) : SlotsIn w v l := by
 rcases h.2 with ⟨rfl, h0⟩ | ⟨g, cap, cur, rfl, hb, hg, hn, hm, hc, ht⟩
 · exact ⟨none, 0, by rw [h0], fun hne => absurd (List.eq_nil_of_length_eq_zero h0) hne⟩
 · refine ⟨some ⟨g, 0, none⟩, cap, rfl, fun _ => ⟨g, rfl, fun k hk => ?_⟩⟩; obtain ⟨c0, c1, c2⟩ := slotCells_at l k hk; have hat : ∀ j u, (slotCells l)[j]? = some u → w.cell? ⟨g, j, none⟩ = some u := by
    intro j u hj; rw [cell_of_row _ _ _ _ _ (0, 0) hg]; rw [← ht, List.getElem?_take] at hj; split at hj
    · simpa using hj
    · cases hj
   exact ⟨hat _ _ c0, hat _ _ c1, hat _ _ c2⟩
theorem OwnF.reads {w : World} {base : Nat} {v : Value} {l : List Fld} (h : OwnF w base v l) : FldsIn w v l := by
 rcases h.2 with ⟨rfl, h0⟩ | ⟨g, cap, cur, rfl, hb, hg, hn, hm, hc, ht⟩
 · exact ⟨none, 0, by rw [h0], fun hne => absurd (List.eq_nil_of_length_eq_zero h0) hne⟩
 · refine ⟨some ⟨g, 0, none⟩, cap, rfl, fun _ => ⟨g, rfl, fun k hk => ?_⟩⟩; obtain ⟨c0, c1⟩ := fldCells_at l k hk; have hat : ∀ j u, (fldCells l)[j]? = some u → w.cell? ⟨g, j, none⟩ = some u := by
    intro j u hj; rw [cell_of_row _ _ _ _ _ (0, 0) hg]; rw [← ht, List.getElem?_take] at hj; split at hj
    · simpa using hj
    · cases hj
   exact ⟨hat _ _ c0, hat _ _ c1⟩
def idxOr {α : Type} (p : α → Bool) (l : List α) : Int := match l.findIdx? p with | some i => (i : Int) | none => -1
theorem idxOr_hit {α : Type} {p : α → Bool} {l : List α} {k : Nat} (h : k < l.length) (hno : ∀ j (hj : j < k), p (l[j]'(by omega)) = false) (hp : p l[k] = true) : idxOr p l = k := by
 unfold idxOr; rw [List.findIdx?_eq_some_iff_getElem.2 ⟨h, hp, fun j hj => by rw [hno j hj]; simp⟩]
theorem idxOr_miss {α : Type} {p : α → Bool} {l : List α} (hno : ∀ j (hj : j < l.length), p l[j] = false) : idxOr p l = -1 := by
 unfold idxOr; rw [List.findIdx?_eq_none_iff.2 fun x hx => by obtain ⟨j, hj, rfl⟩ := List.getElem_of_mem hx; exact hno j hj]
theorem slot1_calls (t n : Int) (mu : Bool) (tag : Int) (c : Nat) (w : World) (hc : w.cell? ⟨c, 0, none⟩ = some (.int .i64 tag)) :
 Calls Tryz.prog 217 #[.agg #[.int .i64 t, .int .i64 n, .bool mu], .pointer (some ⟨c, 0, none⟩)] w fun e w' => e = .returned (.bool (t == tag)) ∧ Ext w w' := by
 have hlt := lt_of_cell hc; go_enter Tryz.func217, Tryz.ntmps217
 go_wp2; go_ret; exact ⟨rfl, (Ext.refl _).alloc _⟩
theorem slotIndex_calls (l : List Slot) (A : Option Addr) (cap : Nat) (tag : Int) (c : Nat) (w : World) (hl : l.length ≤ 1000000) (hA : l ≠ [] → ∃ b, A = some ⟨b, 0, none⟩ ∧ SlotsAt w b l) (hc : w.cell? ⟨c, 0, none⟩ = some (.int .i64 tag)) :
 Calls Tryz.prog 216 #[.slice A l.length cap, .func (.func 217) #[] #[.pointer (some ⟨c, 0, none⟩)]] w fun e w' => e = .returned (.int .i64 (idxOr (fun x => x.tag == tag) l)) ∧ Ext w w' := by
 obtain ⟨R, hR⟩ : ∃ R, idxOr (fun x : Slot => x.tag == tag) l = R := ⟨_, rfl⟩
 rw [hR]; have HR := Lib.hid hR; have HA := Lib.hid hA; have HC := Lib.hid hc; clear hR hA hc; go_enter Tryz.func216, Tryz.ntmps216
 go_wp2_with fail; go_loopw [8] (fun i wr => ∃ k : Nat, k ≤ l.length ∧ i = .int .i64 k ∧ Ext w wr ∧ ∀ j (hj : j < k) (hj2 : j < l.length), (l[j].tag == tag) = false) (fun i _ => l.length - (intOf i).toNat)
 case atStart => exact ⟨0, by omega, rfl, Ext.refl _, fun j hj => by omega⟩
 case round =>
  obtain ⟨k, hk, rfl, hE, hno⟩ := hrel; have HNO := Lib.hid hno; have HE := Lib.hid hE; clear hno hE; by_cases hlt : k < l.length
  · obtain ⟨b, rfl, hat⟩ := HA.out (by rintro rfl; simp at hlt); have hk3 := (hat.ext HE.out) k hlt; have hcc := HE.out.cell HC.out; have HF := Lib.hid fun w1 (h : w1.cell? ⟨c, 0, none⟩ = some (.int .i64 tag)) => slot1_calls l[k].tag l[k].num l[k].must tag c w1 h
    have HSTEP : RowKit.Hid ((l[k].tag == tag) = false → ∀ j (hj : j < k + 1) (hj2 : j < l.length), (l[j].tag == tag) = false) := Lib.hid fun h j hj hj2 => by
     by_cases hjk : j = k
     · subst hjk; exact h
     · exact HNO.out j (by omega) hj2
    have HHIT : RowKit.Hid ((l[k].tag == tag) = true → R = k) := Lib.hid fun h => by rw [← HR.out]; exact idxOr_hit hlt (fun j hj => HNO.out j hj (by omega)) h
    clear hat; generalize hxx : l[k] = x at *; obtain ⟨t, n, mu⟩ := x; dsimp only at hk3 HF HSTEP HHIT; obtain ⟨q0, q1, q2⟩ := hk3; have hlc := lt_of_cell hcc; cases htt : t == tag with
    | true =>
     obtain rfl := HHIT.out htt; have HT := Lib.hid htt; clear htt hxx; go_wp2_with fail; refine (HF.out _ (by go_simp)).mono ?_; rw [HT.out]; rintro e w1 ⟨rfl, hE1⟩; go_wp2; go_ret; exact ⟨rfl, HE.out.trans hE1⟩
    | false =>
     have HT := Lib.hid htt; clear htt hxx; go_wp2_with fail; refine (HF.out _ (by go_simp)).mono ?_; rw [HT.out]; rintro e w1 ⟨rfl, hE1⟩; go_wp2; go_roundw
     case rel => exact ⟨k + 1, by omega, by go_num, HE.out.trans hE1, HSTEP.out HT.out⟩
     case measure => simp [intOf]; omega
  · obtain rfl : k = l.length := by omega
    have e : R = -1 := by rw [← HR.out]; exact idxOr_miss fun j hj => HNO.out j hj hj
    subst e; go_wp2; go_ret; exact ⟨rfl, HE.out⟩
theorem fld1_calls (t : Int) (s : List UInt8) (tag : Int) (c : Nat) (w : World) (hc : w.cell? ⟨c, 0, none⟩ = some (.int .i64 tag)) :
 Calls Tryz.prog 219 #[.agg #[.int .i64 t, .string ⟨s.toArray⟩], .pointer (some ⟨c, 0, none⟩)] w fun e w' => e = .returned (.bool (t == tag)) ∧ Ext w w' := by
 have hlt := lt_of_cell hc; go_enter Tryz.func219, Tryz.ntmps219
 go_wp2; go_ret; exact ⟨rfl, (Ext.refl _).alloc _⟩
theorem fldIndex_calls (l : List Fld) (A : Option Addr) (cap : Nat) (tag : Int) (c : Nat) (w : World) (hl : l.length ≤ 1000000) (hA : l ≠ [] → ∃ b, A = some ⟨b, 0, none⟩ ∧ FieldsAt w b l) (hc : w.cell? ⟨c, 0, none⟩ = some (.int .i64 tag)) :
 Calls Tryz.prog 218 #[.slice A l.length cap, .func (.func 219) #[] #[.pointer (some ⟨c, 0, none⟩)]] w fun e w' => e = .returned (.int .i64 (idxOr (fun x => x.1 == tag) l)) ∧ Ext w w' := by
 obtain ⟨R, hR⟩ : ∃ R, idxOr (fun x : Fld => x.1 == tag) l = R := ⟨_, rfl⟩
 rw [hR]; have HR := Lib.hid hR; have HA := Lib.hid hA; have HC := Lib.hid hc; clear hR hA hc; go_enter Tryz.func218, Tryz.ntmps218
 go_wp2_with fail; go_loopw [8] (fun i wr => ∃ k : Nat, k ≤ l.length ∧ i = .int .i64 k ∧ Ext w wr ∧ ∀ j (hj : j < k) (hj2 : j < l.length), (l[j].1 == tag) = false) (fun i _ => l.length - (intOf i).toNat)
 case atStart => exact ⟨0, by omega, rfl, Ext.refl _, fun j hj => by omega⟩
 case round =>
  obtain ⟨k, hk, rfl, hE, hno⟩ := hrel; have HNO := Lib.hid hno; have HE := Lib.hid hE; clear hno hE; by_cases hlt : k < l.length
  · obtain ⟨b, rfl, hat⟩ := HA.out (by rintro rfl; simp at hlt); have hk3 := (hat.ext HE.out) k hlt; have hcc := HE.out.cell HC.out; have HF := Lib.hid fun w1 (h : w1.cell? ⟨c, 0, none⟩ = some (.int .i64 tag)) => fld1_calls l[k].1 l[k].2 tag c w1 h
    have HSTEP : RowKit.Hid ((l[k].1 == tag) = false → ∀ j (hj : j < k + 1) (hj2 : j < l.length), (l[j].1 == tag) = false) := Lib.hid fun h j hj hj2 => by
     by_cases hjk : j = k
     · subst hjk; exact h
     · exact HNO.out j (by omega) hj2
    have HHIT : RowKit.Hid ((l[k].1 == tag) = true → R = k) := Lib.hid fun h => by rw [← HR.out]; exact idxOr_hit hlt (fun j hj => HNO.out j hj (by omega)) h
    clear hat; generalize hxx : l[k] = x at *; obtain ⟨t, s⟩ := x; dsimp only at hk3 HF HSTEP HHIT; obtain ⟨q0, q1⟩ := hk3; have hlc := lt_of_cell hcc; cases htt : t == tag with
    | true =>
     obtain rfl := HHIT.out htt; have HT := Lib.hid htt; clear htt hxx; go_wp2_with fail; refine (HF.out _ (by go_simp)).mono ?_; rw [HT.out]; rintro e w1 ⟨rfl, hE1⟩; go_wp2; go_ret; exact ⟨rfl, HE.out.trans hE1⟩
    | false =>
     have HT := Lib.hid htt; clear htt hxx; go_wp2_with fail; refine (HF.out _ (by go_simp)).mono ?_; rw [HT.out]; rintro e w1 ⟨rfl, hE1⟩; go_wp2; go_roundw
     case rel => exact ⟨k + 1, by omega, by go_num, HE.out.trans hE1, HSTEP.out HT.out⟩
     case measure => simp [intOf]; omega
  · obtain rfl : k = l.length := by omega
    have e : R = -1 := by rw [← HR.out]; exact idxOr_miss fun j hj => HNO.out j hj hj
    subst e; go_wp2; go_ret; exact ⟨rfl, HE.out⟩
end
section
open Go Go.RowKit
set_option maxHeartbeats 3200000
attribute [local go_sem] ba_get
theorem idxOr_some {α : Type} {p : α → Bool} {l : List α} {i : Nat} (h : l.findIdx? p = some i) : idxOr p l = i ∧ i < l.length := by
 unfold idxOr; rw [h]; exact ⟨rfl, (List.findIdx?_eq_some_iff_getElem.1 h).1⟩
theorem idxOr_none {α : Type} {p : α → Bool} {l : List α} (h : l.findIdx? p = none) : idxOr p l = -1 := by unfold idxOr; rw [h]
def valueV (l : List Fld) (tag : Int) : Value := .tuple #[.int .i64 (placeOf l tag), .string ⟨(textOf l tag).toArray⟩]
theorem value_calls (v : Value) (l : List Fld) (tag : Int) (w : World) (hl : l.length ≤ 1000000) (hF : FldsIn w v l) :
 Calls Tryz.prog 90 #[v, .int .i64 tag] w fun e w' => e = .returned (valueV l tag) ∧ Ext w w' := by
 obtain ⟨A, cap, rfl, hA⟩ := hF.is; have HI := Lib.hid (fldIndex_calls l A cap tag w.heap.size (w.alloc (.cells #[.int .i64 tag] 3)) hl (fun hne => by obtain ⟨b, h1, h2⟩ := hA hne; exact ⟨b, h1, h2.ext ((Ext.refl _).alloc _)⟩) (by go_simp)); have HA := Lib.hid hA; clear hA hF; obtain ⟨R, hR⟩ : ∃ R, valueV l tag = R := ⟨_, rfl⟩
 rw [hR]; unfold valueV placeOf textOf valueOf at hR; have HR := Lib.hid hR; clear hR; have hX : Ext w (w.alloc (.cells #[.int .i64 tag] 3)) := (Ext.refl _).alloc _; cases hi : l.findIdx? (fun f => f.1 == tag) with
 | none =>
  rw [idxOr_none hi] at HI; have e : R = .tuple #[.int .i64 (-1), .string ⟨#[]⟩] := by rw [← HR.out, hi]; rfl
  subst e; clear hi HR; go_enter Tryz.func90, Tryz.ntmps90
  go_wp2_with fail; refine HI.out.mono ?_; rintro e w1 ⟨rfl, hE⟩; go_wp2; go_ret2; exact ⟨rfl, hX.trans hE⟩
 | some k =>
  obtain ⟨h1, hk⟩ := idxOr_some hi; rw [h1] at HI; have e : R = .tuple #[.int .i64 k, .string ⟨((l[k]).2).toArray⟩] := by rw [← HR.out, hi]; simp [hk]
  subst e; obtain ⟨b, rfl, hat⟩ := HA.out (by rintro rfl; simp at hk); obtain ⟨q0, q1⟩ := hat k hk; clear hi h1 HR hat HA q0; have hki : (k : Int) < (l.length : Int) := by omega
  generalize (l[k]).2 = s at *; generalize l.length = L at *; go_enter Tryz.func90, Tryz.ntmps90
  go_wp2_with fail; refine HI.out.mono ?_; rintro e w0 ⟨rfl, hE0⟩; have hX0 := hX.trans hE0; have q1 := hX0.cell q1; clear hE0; go_wp2_with fail; refine wp_region_steps (fun _ => by kernel_rfl) [.is (.int .i64 k), .is (.slice (some ⟨b, 0, none⟩) L cap), .is (.int .i64 k), .is (.pointer (some ⟨b, k * 2, none⟩)), .is (.pointer (some ⟨b, k * 2 + 1, none⟩)), .is (.string ⟨s.toArray⟩), .is (.int .i64 k), .is (.string ⟨s.toArray⟩)] (by kernel_rfl) ?_ ?_
  · refine And.intro ?_ (And.intro ?_ (And.intro ?_ (And.intro ?_ (And.intro ?_ (And.intro ?_ (And.intro ?_ (And.intro ?_ (True.intro))))))))
    · intro ρ w' hE hB hD; have e6 : ρ (.tmp 6) = _ := hB (.tmp 6) rfl; clear hB hD; refine .inl ⟨rfl, ?_⟩; unfold Gives; go_simp; first | done | exact xr0 | exact xr1
    · intro ρ w' hE hB hD; have e0 : ρ (.tmp 0) = _ := hB (.tmp 0) rfl; clear hB hD; refine .inl ⟨rfl, ?_⟩; unfold Gives; go_simp; first | done | exact xr0 | exact xr1
    · intro ρ w' hE hB hD; have e6 : ρ (.tmp 6) = _ := hB (.tmp 6) rfl; clear hB hD; refine .inl ⟨rfl, ?_⟩; unfold Gives; go_simp; first | done | exact xr0 | exact xr1
    · intro ρ w' hE hB hD; have e13 : ρ (.tmp 13) = .slice (some ⟨b, 0, none⟩) L cap := hD 1 13 rfl rfl; have e14 : ρ (.tmp 14) = .int .i64 k := hD 2 14 rfl rfl; clear hB hD; refine .inl ⟨rfl, ?_⟩; unfold Gives; go_simp; first | done | exact xr0 | exact xr1
    · intro ρ w' hE hB hD; have e15 : ρ (.tmp 15) = .pointer (some ⟨b, k * 2, none⟩) := hD 3 15 rfl rfl; clear hB hD; refine .inl ⟨rfl, ?_⟩; unfold Gives; go_simp; first | done | exact xr0 | exact xr1
    · intro ρ w' hE hB hD; have m1 := hE.cell q1; have e16 : ρ (.tmp 16) = .pointer (some ⟨b, k * 2 + 1, none⟩) := hD 4 16 rfl rfl; clear hB hD; refine .inl ⟨rfl, ?_⟩; unfold Gives; go_simp; first | done | exact xr0 | exact xr1
    · intro ρ w' hE hB hD; have e12 : ρ (.tmp 12) = .int .i64 k := hD 0 12 rfl rfl; clear hB hD; refine .inl ⟨rfl, ?_⟩; unfold Gives; go_simp; first | done | exact xr0 | exact xr1
    · intro ρ w' hE hB hD; have e17 : ρ (.tmp 17) = .string ⟨s.toArray⟩ := hD 5 17 rfl rfl; clear hB hD; refine .inl ⟨rfl, ?_⟩; unfold Gives; go_simp; first | done | exact xr0 | exact xr1
  · intro a' w1 hE1 hd' hs' hB' hP'; have ha' := act_of_posts [(12, .int .i64 k), (13, .slice (some ⟨b, 0, none⟩) L cap), (14, .int .i64 k), (15, .pointer (some ⟨b, k * 2, none⟩)), (16, .pointer (some ⟨b, k * 2 + 1, none⟩)), (17, .string ⟨s.toArray⟩), (4, .int .i64 k), (5, .string ⟨s.toArray⟩)] hd' hs' hB' (by simp) (by kernel_rfl) (by
     intro p hp; simp only [List.mem_cons, List.mem_nil_iff, or_false] at hp
     rcases hp with rfl | rfl | rfl | rfl | rfl | rfl | rfl | rfl
     · exact hP' 0 12 rfl
     · exact hP' 1 13 rfl
     · exact hP' 2 14 rfl
     · exact hP' 3 15 rfl
     · exact hP' 4 16 rfl
     · exact hP' 5 17 rfl
     · exact hP' 6 4 rfl
     · exact hP' 7 5 rfl)
    clear hB' hP' hs' hd'; simp only [List.foldl_cons, List.foldl_nil, List.setIfInBounds_toArray, List.set_cons_succ, List.set_cons_zero] at ha'; subst ha'; go_wp2; go_ret2; exact ⟨rfl, hX0.trans hE1⟩
theorem findSlot_idx (l : List Slot) (tag : Int) : (findSlot l tag = none ∧ l.findIdx? (fun s => s.tag == tag) = none) ∨ ∃ i, ∃ h : i < l.length, l.findIdx? (fun s => s.tag == tag) = some i ∧ findSlot l tag = some l[i] := by
 unfold findSlot; cases hi : l.findIdx? (fun s => s.tag == tag) with
 | none =>
  left
  rw [List.findIdx?_eq_none_iff] at hi; refine ⟨?_, rfl⟩; rw [List.find?_eq_none]; intro x hx; rw [hi x hx]; simp
 | some i =>
  right
  obtain ⟨h, hp, hno⟩ := List.findIdx?_eq_some_iff_getElem.1 hi; refine ⟨i, h, rfl, ?_⟩; rw [List.find?_eq_some_iff_getElem]; exact ⟨hp, i, h, rfl, fun j hj => by simpa using hno j hj⟩
def findV : Option Slot → Value
 | some s => .tuple #[.agg (slotV s), .bool true]
 | none => .tuple #[.agg #[.int .i64 0, .int .i64 0, .bool false], .bool false]
theorem find_calls (v : Value) (l : List Slot) (tag : Int) (w : World) (hl : l.length ≤ 1000000) (hF : SlotsIn w v l) :
 Calls Tryz.prog 89 #[v, .int .i64 tag] w fun e w' => e = .returned (findV (findSlot l tag)) ∧ Ext w w' := by
 obtain ⟨A, cap, rfl, hA⟩ := hF.is; have hX : Ext w ((w.alloc (.cells #[.int .i64 tag] 3)).alloc (.cells #[.int .i64 0, .int .i64 0, .bool false] 76)) := ((Ext.refl _).alloc _).alloc _; have HI := Lib.hid (slotIndex_calls l A cap tag w.heap.size ((w.alloc (.cells #[.int .i64 tag] 3)).alloc (.cells #[.int .i64 0, .int .i64 0, .bool false] 76)) hl (fun hne => by obtain ⟨b, h1, h2⟩ := hA hne; exact ⟨b, h1, h2.ext hX⟩) (by go_simp)); have HA := Lib.hid hA; clear hA hF; have hblk : ((w.alloc (.cells #[.int .i64 tag] 3)).alloc (.cells #[.int .i64 0, .int .i64 0, .bool false] 76)).heap[w.heap.size + 1]? = some (.cells #[.int .i64 0, .int .i64 0, .bool false] 76) := by
  have := heap_alloc_new (w.alloc (.cells #[.int .i64 tag] 3)) (.cells #[.int .i64 0, .int .i64 0, .bool false] 76); simpa using this
 have HB := Lib.hid hblk; clear hblk; rcases findSlot_idx l tag with ⟨h1, h2⟩ | ⟨k, hk, h2, h1⟩
 · rw [idxOr_none h2] at HI; rw [h1]; unfold findV; clear h1 h2; go_enter Tryz.func89, Tryz.ntmps89
   go_wp2_with fail; refine HI.out.mono ?_; rintro e w1 ⟨rfl, hE⟩; have hb1 := hE.heap HB.out; obtain ⟨hq, hz⟩ := blk_facts hb1; have q0 := hq 0; have q1 := hq 1; have q2 := hq 2; have z0 := hz 0; have z1 := hz 1; have z2 := hz 2; simp at q0 q1 q2; have hB1 : Ext w w1 := hX.trans hE; have HX1 := Lib.hid hB1; have hf := set_blk (o := 2) (u := .bool false) (set_blk (o := 1) (u := .int .i64 0) (set_blk (o := 0) (u := .int .i64 0) hb1)); obtain ⟨rq, _⟩ := blk_facts hf; have r0 := rq 0; have r1 := rq 1; have r2 := rq 2; simp at r0 r1 r2; have HR := Lib.hid (And.intro r0 (And.intro r1 r2)); clear hq hz hb1 hE hB1 rq hf r0 r1 r2; go_wp2; obtain ⟨r0, r1, r2⟩ := HR.out; have hfin : Ext w ((((w1.setCell ⟨w.heap.size + 1, 0, none⟩ (.int .i64 0)).setCell ⟨w.heap.size + 1, 1, none⟩ (.int .i64 0)).setCell ⟨w.heap.size + 1, 2, none⟩ (.bool false))) :=
    (((HX1.out.setCell (by simp) _).setCell (by simp) _).setCell (by simp) _)
   generalize (((w1.setCell ⟨w.heap.size + 1, 0, none⟩ (.int .i64 0)).setCell ⟨w.heap.size + 1, 1, none⟩ (.int .i64 0)).setCell ⟨w.heap.size + 1, 2, none⟩ (.bool false)) = w2 at *; exact bodyPost_ret (v := .tuple #[.agg #[.int .i64 0, .int .i64 0, .bool false], .bool false]) (by simp [results, Tryz.results89, go_sem, r0, r1, r2]) rfl ⟨rfl, hfin⟩
 · obtain ⟨e1, _⟩ := idxOr_some h2; rw [e1] at HI; rw [h1]; obtain ⟨b, rfl, hat⟩ := HA.out (by rintro rfl; simp at hk); obtain ⟨c0, c1, c2⟩ := hat k hk; have hki : (k : Int) < (l.length : Int) := by omega
   clear h1 h2 e1 hat HA; generalize l[k] = sl at *; generalize l.length = L at *; obtain ⟨t, n, mu⟩ := sl; unfold findV slotV; dsimp only at c0 c1 c2 ⊢; go_enter Tryz.func89, Tryz.ntmps89
   go_wp2_with fail; refine HI.out.mono ?_; rintro e w1 ⟨rfl, hE⟩; have hb1 := hE.heap HB.out; obtain ⟨hq, hz⟩ := blk_facts hb1; have q0 := hq 0; have q1 := hq 1; have q2 := hq 2; have z0 := hz 0; have z1 := hz 1; have z2 := hz 2; simp at q0 q1 q2; have hB1 : Ext w w1 := hX.trans hE; have c0 := hB1.cell c0; have c1 := hB1.cell c1; have c2 := hB1.cell c2; have HX1 := Lib.hid hB1; have hf := set_blk (o := 2) (u := .bool mu) (set_blk (o := 1) (u := .int .i64 n) (set_blk (o := 0) (u := .int .i64 t) hb1)); obtain ⟨rq, _⟩ := blk_facts hf; have r0 := rq 0; have r1 := rq 1; have r2 := rq 2; simp at r0 r1 r2; have HR := Lib.hid (And.intro r0 (And.intro r1 r2)); clear hq hz hb1 hE hB1 rq hf r0 r1 r2; go_wp2; obtain ⟨r0, r1, r2⟩ := HR.out; have hfin : Ext w ((((w1.setCell ⟨w.heap.size + 1, 0, none⟩ (.int .i64 t)).setCell ⟨w.heap.size + 1, 1, none⟩ (.int .i64 n)).setCell ⟨w.heap.size + 1, 2, none⟩ (.bool mu))) :=
    (((HX1.out.setCell (by simp) _).setCell (by simp) _).setCell (by simp) _)
   generalize (((w1.setCell ⟨w.heap.size + 1, 0, none⟩ (.int .i64 t)).setCell ⟨w.heap.size + 1, 1, none⟩ (.int .i64 n)).setCell ⟨w.heap.size + 1, 2, none⟩ (.bool mu)) = w2 at *; exact bodyPost_ret (v := .tuple #[.agg #[.int .i64 t, .int .i64 n, .bool mu], .bool true]) (by simp [results, Tryz.results89, go_sem, r0, r1, r2]) rfl ⟨rfl, hfin⟩
theorem scopeOf_calls (g : Nat) (m : Msg) (w : World) (hM : MsgAt w g m) : Calls Tryz.prog 77 #[.pointer (some ⟨g, 0, none⟩)] w fun e w' => e = .returned (.string ⟨(scopeOf m).toArray⟩) ∧ w = w' := by
 have hc := hM.cell (k := 22) (by decide); rw [cellAt_str hM.wt (k := 22) rfl] at hc; unfold scopeOf; clear hM; generalize gs m 22 = s at *; by_cases h : s = []
 · subst h; go_enter Tryz.func77, Tryz.ntmps77
   go_wp2; go_ret; exact ⟨rfl, rfl⟩
 · have h1 : s.isEmpty = false := by simpa using h
   have h2 : (!s.isEmpty) = true := by rw [h1]; rfl
   rw [h1]; simp only [Bool.false_eq_true, if_false]; go_enter Tryz.func77, Tryz.ntmps77
   go_wp2; go_ret; exact ⟨rfl, rfl⟩
end
section
open Go Go.RowKit
set_option maxHeartbeats 3200000
attribute [local go_sem] ba_get
structure CanWrite (s : Slot) (m : Msg) : Prop where
 num : s.tag ≠ 98 → s.tag ≠ 18 → s.tag ≠ 530 → ¬ (s.num = 59 ∧ gi m 25 = 7) → s.num ∈ numbered
 may : s.tag ≠ 98 → s.tag ≠ 18 → s.tag ≠ 530 → ¬ (s.num = 59 ∧ gi m 25 = 7) → (s.must = true ∨ there m (cellOf s.num) = true) → (formAt s.num).may (cellAt m (cellOf s.num)) = true
theorem written_calls (s : Slot) (g : Nat) (m : Msg) (w : World) (hM : MsgAt w g m) (hE : Env w) (hc : CanWrite s m) :
 Calls Tryz.prog 39 #[.agg (slotV s), .pointer (some ⟨g, 0, none⟩)] w fun e w' => e = .returned (.string ⟨(written s m).toArray⟩) ∧ Ext w w' := by
 obtain ⟨t, n, mu⟩ := s; unfold slotV; obtain ⟨R, hR⟩ : ∃ R, written ⟨t, n, mu⟩ m = R := ⟨_, rfl⟩
 rw [hR]; unfold written at hR; have HR := Lib.hid hR; have HM := Lib.hid hM; have HE := Lib.hid hE; have HC := Lib.hid hc; have hlife := hM.cell (k := 25) (by decide); rw [cellAt_int hM.wt (k := 25) rfl] at hlife; have hgl := hM.lt; have hlife0 : ((w.alloc (.cells #[.int .i64 t, .int .i64 n, .bool mu] 76))).cell? ⟨g, 25, none⟩ = some (.int .i64 (gi m 25)) := ((Ext.refl w).alloc _).cell hlife; obtain ⟨lf, hlf⟩ : ∃ lf, gi m 25 = lf := ⟨_, rfl⟩
 rw [hlf] at hlife hlife0; have HLF := Lib.hid hlf; clear hR hM hE hc hlf; by_cases h98 : t = 98
 · subst h98; have e : R = [48] := by rw [← HR.out]; rfl
   subst e; go_enter Tryz.func39, Tryz.ntmps39
   go_wp2; go_ret; exact ⟨rfl, (Ext.refl _).alloc _⟩
 have n98 : (t == 98) = false := by simpa using h98
 by_cases h18 : t = 18
 · subst h18; by_cases h7 : lf = 7
   · subst h7; have e : R = [54] := by rw [← HR.out]; simp [HLF.out]
     subst e; clear n98 h98; go_enter Tryz.func39, Tryz.ntmps39
     go_wp2; go_ret; exact ⟨rfl, (Ext.refl _).alloc _⟩
   · have e : R = [] := by rw [← HR.out]; simp [HLF.out, h7]
     subst e; have n7 : (lf == 7) = false := by simpa using h7
     clear n98 h98 h7; go_enter Tryz.func39, Tryz.ntmps39
     go_wp2; go_ret; exact ⟨rfl, (Ext.refl _).alloc _⟩
 have n18 : (t == 18) = false := by simpa using h18
 by_cases h530 : t = 530
 · subst h530; have e : R = scopeOf m := by rw [← HR.out]; rfl
   subst e; have HS := Lib.hid (scopeOf_calls g m _ (HM.out.ext ((Ext.refl w).alloc (.cells #[.int .i64 530, .int .i64 n, .bool mu] 76)))); generalize scopeOf m = sc at *; clear n98 h98 n18 h18; go_enter Tryz.func39, Tryz.ntmps39
   go_wp2_with (first | (refine HS.out.mono ?_; rintro e w1 ⟨rfl, rfl⟩)); go_ret; exact ⟨rfl, (Ext.refl _).alloc _⟩
 have n530 : (t == 530) = false := by simpa using h530
 by_cases h59 : n = 59 ∧ lf = 7
 · obtain ⟨rfl, rfl⟩ := h59; have e : R = [48] := by rw [← HR.out]; simp [h98, h18, h530, HLF.out]
   subst e; clear h98 h18 h530; go_enter Tryz.func39, Tryz.ntmps39
   go_wp2; go_ret; exact ⟨rfl, (Ext.refl _).alloc _⟩
 have hpost : ((n == 59) = true ∧ (lf == 7) = false) ∨ ((n == 59) = false) := by
  by_cases h : n = 59
  · left
    exact ⟨by simpa using h, by simpa using fun e => h59 ⟨h, e⟩⟩
  · right; simpa using h
 have hR2 : R = if !mu && !there m (cellOf n) then [] else (formAt n).print (cellAt m (cellOf n)) := by
  rw [← HR.out]; have e59 : (n == 59 && gi m 25 == 7) = false := by
   rw [HLF.out]; rcases hpost with ⟨a, b⟩ | a
   · rw [b, Bool.and_false]
   · rw [a, Bool.false_and]
  simp only [n98, n18, n530, e59, Bool.false_eq_true, if_false]; rfl
 have hno : ¬ (n = 59 ∧ gi m 25 = 7) := by rw [HLF.out]; exact h59
 have HN := Lib.hid (HC.out.num h98 h18 h530 hno); have HMAY : RowKit.Hid ((mu = true ∨ there m (cellOf n) = true) → (formAt n).may (cellAt m (cellOf n)) = true) := Lib.hid (HC.out.may h98 h18 h530 hno); have HRR := Lib.hid hR2; clear h98 h18 h530 h59 hno hR2 HR HC; have finish : ∀ (w0 : World), Ext w w0 → RowKit.Hid (MsgAt w0 g m ∧ Env w0) := fun w0 h => Lib.hid ⟨HM.out.ext h, HE.out.ext h⟩
 have HFIN := Lib.hid finish; clear finish; rcases hpost with ⟨p1, p2⟩ | p1
 all_goals
  go_enter Tryz.func39, Tryz.ntmps39
  go_wp2_with fail; refine (formOf_calls n HN.out _).mono ?_; rintro e w1 ⟨⟨v, rfl, hv⟩, hE1⟩; have hX1 : Ext w w1 := ((Ext.refl w).alloc _).trans hE1; have hcs := hE1.heap (heap_alloc_new w (.cells #[.int .i64 t, .int .i64 n, .bool mu] 76)); obtain ⟨hq, _⟩ := blk_facts hcs; have q0 := hq 0; have q1 := hq 1; have q2 := hq 2; simp at q0 q1 q2; have HX1 := Lib.hid hX1; clear hcs hq hE1 hX1; obtain ⟨fa, fb, fc, e, ⟨ga, ca, rfl, ea, ha⟩, ⟨gb', cb, rfl, eb, hb⟩, ⟨gc, cc, rfl, ec, hcc⟩⟩ := hv.is; subst e; have EA := Lib.hid ea; have HA := Lib.hid ha; have EB := Lib.hid eb; have HB := Lib.hid hb; have hea : ∀ args w, (callFunc ga args).run Tryz.prog w = .ok (.enter ga args) w := ea; have heb : ∀ args w, (callFunc gb' args).run Tryz.prog w = .ok (.enter gb' args) w := eb; have hslot := lt_of_cell q0; clear ea ha eb hb ec hcc hv; have hkeep : ∀ w0, Ext w1 w0 → Keep (fun _ => False) w1 w0 := fun w0 h => Keep.of h
  have HK := Lib.hid hkeep; clear hkeep; cases mu with
  | true =>
   have hm := HMAY.out (Or.inl rfl); have e : (formAt n).print (cellAt m (cellOf n)) = R := by rw [HRR.out]; rfl
   have HSH := Lib.hid fun w0 (h : Ext w1 w0) => HB.out w0 (HK.out w0 h) (HFIN.out w0 (HX1.out.trans h)).out.2 g m (HFIN.out w0 (HX1.out.trans h)).out.1 hm
   rw [e] at HSH; clear hm e; go_wp2_with fail; refine (HSH.out _ ((Ext.refl w1).alloc _)).mono ?_; rintro e w2 ⟨rfl, hE2⟩; go_wp2; go_ret; exact ⟨rfl, HX1.out.trans (((Ext.refl w1).alloc _).trans hE2)⟩
  | false =>
   have HTH := Lib.hid fun w0 (h : Ext w1 w0) => HA.out w0 (HK.out w0 h) g m (HFIN.out w0 (HX1.out.trans h)).out.1
   cases hth : there m (cellOf n) with
   | false =>
    have e : R = [] := by rw [HRR.out, hth]; rfl
    subst e; rw [hth] at HTH; clear hth; go_wp2_with fail; refine (HTH.out _ ((Ext.refl w1).alloc _)).mono ?_; rintro e w2 ⟨rfl, hE2⟩; go_wp2; go_ret; exact ⟨rfl, HX1.out.trans (((Ext.refl w1).alloc _).trans hE2)⟩
   | true =>
    have hm := HMAY.out (Or.inr hth); have e : (formAt n).print (cellAt m (cellOf n)) = R := by rw [HRR.out, hth]; rfl
    rw [hth] at HTH; have HSH := Lib.hid fun w0 (h : Ext w1 w0) => HB.out w0 (HK.out w0 h) (HFIN.out w0 (HX1.out.trans h)).out.2 g m (HFIN.out w0 (HX1.out.trans h)).out.1 hm
    rw [e] at HSH; clear hm hth e; go_wp2_with fail; refine (HTH.out _ ((Ext.refl w1).alloc _)).mono ?_; rintro e w2 ⟨rfl, hE2⟩; have hX2 : Ext w1 w2 := ((Ext.refl w1).alloc _).trans hE2; have hfs := hE2.heap (heap_alloc_new w1 (.cells #[.int .i64 n, .func (.func ga) #[] ca, .func (.func gb') #[] cb, .func (.func gc) #[] cc] 130)); obtain ⟨hq, _⟩ := blk_facts hfs; have s2 := hq 2; simp at s2; have HX2 := Lib.hid hX2; clear hfs hq hE2 hX2; go_wp2_with fail; refine (HSH.out _ HX2.out).mono ?_; rintro e w3 ⟨rfl, hE3⟩; go_wp2; go_ret; exact ⟨rfl, HX1.out.trans (HX2.out.trans hE3)⟩
end
section
open Go Go.RowKit
set_option maxHeartbeats 3200000
attribute [local go_sem ↓] loadVarMsg
attribute [local go_sem] ba_get loadRowMsg rowOf_new rowOf_old rowOf_drew
theorem num_of_cell {n : Int} (h : cellOf n < 42) : n ∈ numbered := by
 unfold cellOf at h; rw [← List.idxOf_lt_length_iff, show numbered.length = 42 from by decide]; exact h
theorem canWrite {m : Msg} (h : Good m) {s : Slot} (hs : s ∈ slotsOf (gi m 0)) : CanWrite s m := by
 have hok := slot_ok h hs; have hn0 : s.tag ≠ 98 → s.tag ≠ 18 → s.tag ≠ 530 → s.num ≠ 0 := by
  intro h1 h2 h3 h0; unfold slotOk at hok; rw [if_pos (by simpa using h0)] at hok; simp only [Bool.and_eq_true, Bool.or_eq_true, beq_iff_eq] at hok; rcases hok.2 with (h4 | h4) | h4
  · exact h1 h4.1
  · exact h2 h4.1
  · exact h3 h4.1
 refine ⟨fun h1 h2 h3 _ => num_of_cell (slot_cell h hs (hn0 h1 h2 h3)), fun h1 h2 h3 h59 hx => ?_⟩; obtain ⟨a, b, c⟩ := slot_says h hs; have hne : written s m ≠ [] := by
  rcases hx with hx | hx
  · exact b hx
  · intro e; rw [c (hn0 h1 h2 h3) e] at hx; cases hx
 exact (a hne).may (hn0 h1 h2 h3) h59
theorem wpList_fld {W w0 : World} {ops : Array Oper} {rest : List Oper} {o : Oper} {a : Act} {Q : Exit → Act → World → Prop} (s x : Operand) (hgd : o.guard = none)
 (ho : o.op = .call { callee := .builtin .append, args := #[s, x], argTypes := #[40, 40] }) (v : Value) (l : List Fld) (hs : a.eval s = v) (hown : OwnF w0 W.heap.size v l) (hX : Ext W w0)
 (t : Int) (b : List UInt8) (hx : a.eval x = .slice (some ⟨w0.heap.size, 0, none⟩) 1 1) (hlen : l.length < 100000)
 (h : ∀ v' w', OwnF w' W.heap.size v' (l ++ [(t, b)]) → Ext W w' → wpList Tryz.prog ops Q rest (a.put o.dst v') w') : wpList Tryz.prog ops Q (o :: rest) a (w0.alloc (.cells #[.int .i64 t, .string ⟨b.toArray⟩] 67)) := by
 obtain ⟨i0, hi0, hz0, hz1, hz2⟩ := info_parts infoFld; have hXa : Ext W (w0.alloc (.cells #[.int .i64 t, .string ⟨b.toArray⟩] 67)) := hX.alloc _; have hcells : ∀ j u, ([.int .i64 t, .string ⟨b.toArray⟩] : List Value)[j]? = some u → (w0.alloc (.cells #[.int .i64 t, .string ⟨b.toArray⟩] 67)).cell? ((⟨w0.heap.size, 0, none⟩ : Addr).add j) = some u :=
  World.news_of_block (cs := #[.int .i64 t, .string ⟨b.toArray⟩]) (t := 67) (fr := (0, 0)) (heap_alloc_new w0 _)
 refine wpList_append_lies _ hgd s x 40 ho W.heap.size 67 i0 _ 2 24 Tryz.underlying40 hi0 hz0 hz1 hz2 rfl (by decide) v l.length (fldCells l) hs (hown.ext ((Ext.refl _).alloc _)) ⟨w0.heap.size, 0, none⟩ 1 1 [.int .i64 t, .string ⟨b.toArray⟩] hx rfl hcells
  (by intro u hu; simp at hu; rcases hu with rfl | rfl <;> rfl) (by decide) (by simp only [maxLen]; omega) (by omega) hXa.size _ rfl ?_
 intro g c w9 hown9 hg9 hat9 hlt9; refine h _ w9 ?_ (Ext.grown' hXa hg9 hXa.size (fun k hk => hown.block hk)); unfold OwnF; rw [fldCells_append, List.length_append]; exact hown9
theorem slotsOf_len (kind : Int) : (slotsOf kind).length ≤ 127 := by
 have h := soFar_len kind 42; have h2 : soFar kind 42 = numbered.flatMap (slotsAt kind) := by unfold soFar; rw [List.take_of_length_le (by rw [show numbered.length = 42 from by decide]; omega)]
 rw [h2] at h; unfold slotsOf; rw [List.length_append]; have := ite_one (hasScope kind = true) (⟨530, 0, true⟩ : Slot); omega
theorem filterMap_take_succ {α β : Type} (f : α → Option β) {l : List α} {k : Nat} (h : k < l.length) : (l.take (k + 1)).filterMap f = (l.take k).filterMap f ++ (match f l[k] with | some x => [x] | none => []) := by
 rw [List.take_succ_eq_append_getElem h, List.filterMap_append]; congr 1
 cases hf : f l[k] with
 | none => simp [hf]
 | some x => simp [hf]
theorem encode_calls (m : Msg) (hm : WT m) (w : World) (hE : Env w) : Calls Tryz.prog 15 #[.agg (msgV m)] w fun e w' => Joined w e w' (encode m) ∧ Ext w w' := by
 have hs := msgV_size hm; have hM : MsgAt (w.alloc (.cells (msgV m) 23)) w.heap.size m := ⟨hm, heap_alloc_new _ _⟩
 have hX : Ext w (w.alloc (.cells (msgV m) 23)) := (Ext.refl w).alloc _; have HM := Lib.hid hM; have HX := Lib.hid hX; have HE := Lib.hid hE; have HV := Lib.hid (valid_calls m hm); obtain ⟨R, hR⟩ : ∃ R, encode m = R := ⟨_, rfl⟩
 rw [hR]; have HR := Lib.hid hR; have hc0 := hM.cell (k := 0) (by decide); rw [cellAt_int hm (k := 0) rfl] at hc0; have hrow : rowOf (w.alloc (.cells (msgV m) 23)) w.heap.size = msgV m := rowOf_new _ _ _ _; have HCELL := Lib.hid hc0; obtain ⟨⟨v1, v2⟩, hv⟩ : ∃ v, valid m = v := ⟨_, rfl⟩
 rw [hv] at HV; have HVV := Lib.hid hv; clear hM hX hE hR hc0 hv hrow; by_cases h0 : v1 = 0
 · subst h0; have hgood : Good m := good_of hm (by rw [HVV.out]); have hRj : R = join (fieldsOf m) := by
    rw [← HR.out]; unfold encode; rw [HVV.out]; rfl
   obtain ⟨hff, _⟩ := fieldsOf_fields hgood; have HRJ := Lib.hid hRj; have HG := Lib.hid hgood; have hlen := slotsOf_len (gi m 0); have hfields : fieldsOf m = (slotsOf (gi m 0)).filterMap (fieldAt m) := rfl; have HFIELDS := Lib.hid hfields; have HSL : RowKit.Hid (∀ s ∈ slotsOf (gi m 0), CanWrite s m) := Lib.hid fun s hs => canWrite hgood hs
   have HNE : RowKit.Hid (fieldsOf m ≠ []) := Lib.hid (by
    obtain ⟨r, hr⟩ := hff.head; rw [hr]; simp)
   have HOK : RowKit.Hid (∀ f ∈ fieldsOf m, FldOk f) := Lib.hid fun f hf => by
    obtain ⟨s, hs2, rfl, hne⟩ := mem_fieldsOf.1 hf; obtain ⟨t1, t2, _⟩ := tag_good (slot_tag_good hgood hs2); have := ((slot_says hgood hs2).1 hne).len; have := most_bound s; exact ⟨⟨by show -9223372036854775808 ≤ s.tag; omega, by show s.tag ≤ 9223372036854775807; omega⟩, by show (written s m).length ≤ 1099511627776; omega⟩
   have hkind := HCELL.out; have HKS := Lib.hid fun w1 => slots_calls (gi m 0) w1
   generalize gi m 0 = kind at *; generalize hall : slotsOf kind = all at *; have HALL := Lib.hid hall; clear hgood hRj hfields hff hall HR; go_enter Tryz.func15, Tryz.ntmps15
   go_wp2_with fail; refine (HV.out _).mono ?_; rintro e w1 ⟨rfl, hE1⟩; have hkind1 := hE1.cell HCELL.out; have hX1 := HX.out.trans hE1; have HX1 := Lib.hid hX1; have HM1 := Lib.hid (HM.out.ext hE1); clear hkind hE1 hX1; go_wp2_with fail; refine (HKS.out _).mono ?_; rintro e w2 ⟨⟨sv, rfl, hsl⟩, hE2⟩; obtain ⟨A, cap, rfl, hA⟩ := hsl.reads; have HA := Lib.hid hA; have hX2 := HX1.out.trans hE2; have HX2 := Lib.hid hX2; have HM2 := Lib.hid (HM1.out.ext hE2); clear hkind1 hsl hA hE2 hX2; go_wp2_with fail; go_loopw [6, 22] (fun v i wr => ∃ k : Nat, k ≤ all.length ∧ i = .int .i64 k ∧ OwnF wr w2.heap.size v ((all.take k).filterMap (fieldAt m)) ∧ Ext w2 wr) (fun _ i _ => all.length - (intOf i).toNat)
   case atStart => exact ⟨0, by omega, rfl, OwnF.nil _ _, Ext.refl _⟩
   case round =>
    obtain ⟨k, hk, rfl, hown, hE⟩ := hrel; have HOWN := Lib.hid hown; have HEX := Lib.hid hE; clear hown hE; by_cases hlt : k < all.length
    · obtain ⟨b, rfl, hat⟩ := HA.out (by rintro rfl; simp at hlt); obtain ⟨q0, q1, q2⟩ := (hat.ext HEX.out) k hlt; have hsucc := filterMap_take_succ (fieldAt m) hlt; have hcw := HSL.out _ (List.getElem_mem hlt); have hfl : ((all.take k).filterMap (fieldAt m)).length ≤ 127 := Nat.le_trans (List.length_filterMap_le _ _) (Nat.le_trans (List.length_take_le _ _) (by omega)); have HFL := Lib.hid hfl; have hki : (k : Int) < (all.length : Int) := by omega
      clear hat hfl; generalize hsl : all[k] = sl at *; have HSUCC := Lib.hid hsucc; have HCW := Lib.hid hcw; clear hsucc hcw hsl; obtain ⟨t, n, mu⟩ := sl; dsimp only at q0 q1 q2; have HWR := Lib.hid fun w0 (h : Ext wr w0) => written_calls ⟨t, n, mu⟩ w.heap.size m w0 ((HM2.out.ext HEX.out).ext h) (((HE.out.ext HX2.out).ext HEX.out).ext h) HCW.out
      have hfa : fieldAt m ⟨t, n, mu⟩ = if (written ⟨t, n, mu⟩ m).isEmpty then none else some (t, written ⟨t, n, mu⟩ m) := rfl
      rw [hfa] at HSUCC; clear hfa; generalize written ⟨t, n, mu⟩ m = val at *; generalize (all.take k).filterMap (fieldAt m) = l at *; unfold slotV at HWR; dsimp only at HWR; by_cases hv0 : val = []
      · subst hv0; go_wp2_with fail; refine (HWR.out _ ((Ext.refl wr).alloc _)).mono ?_; rintro e w3 ⟨rfl, hE3⟩; go_wp2; go_roundw
        case rel => exact ⟨k + 1, by omega, by go_num, by rw [HSUCC.out]; simpa using HOWN.out.ext (((Ext.refl wr).alloc _).trans hE3), HEX.out.trans (((Ext.refl wr).alloc _).trans hE3)⟩
        case measure => simp [intOf]; omega
      · have hne : val.isEmpty = false := by simpa using hv0
        have hne2 : (!val.isEmpty) = true := by rw [hne]; rfl
        have HNE0 := Lib.hid hne; clear hne hv0; go_wp2_with fail; refine (HWR.out _ ((Ext.refl wr).alloc _)).mono ?_; rintro e w3 ⟨rfl, hE3⟩; have hE4 : Ext wr w3 := ((Ext.refl wr).alloc _).trans hE3; have hq0 := hE3.cell (b := wr.heap.size) (o := 0) (v := .int .i64 t) (by go_simp); have HO4 := Lib.hid (HOWN.out.ext hE4); have HE4 := Lib.hid (HEX.out.trans hE4); clear hE3 hE4; go_wp2_with (first | (at_builtin; refine wpList_fld (W := w2) (.tmp 30) (.tmp 35) rfl rfl _ l rfl HO4.out HE4.out t val rfl (by have := HFL.out; omega) ?_; intro v5 w5 hown5 hx5; have HOWN5 := Lib.hid hown5; have HX5 := Lib.hid hx5; clear hown5 hx5)); go_roundw
        case rel => exact ⟨k + 1, by omega, by go_num, by rw [HSUCC.out, HNE0.out]; exact HOWN5.out, HX5.out⟩
        case measure => simp [intOf]; omega
    · obtain rfl : k = all.length := by omega
      have hall2 : (all.take all.length).filterMap (fieldAt m) = fieldsOf m := by rw [List.take_length, HFIELDS.out]
      rw [hall2] at HOWN; obtain ⟨A2, cap2, rfl, hA2⟩ := HOWN.out.reads; obtain ⟨b2, rfl, hat2⟩ := hA2 HNE.out; have hlen2 : (fieldsOf m).length ≤ 127 := by
       have : (fieldsOf m).length ≤ all.length := by rw [HFIELDS.out]; exact List.length_filterMap_le _ _
       omega
      have hb2 : b2 < wr.heap.size := by
       cases hfo : fieldsOf m with
       | nil => exact absurd hfo HNE.out
       | cons f r => exact lt_of_cell (hat2 0 (by rw [hfo]; simp)).1
      have HJ := Lib.hid (join_calls (fieldsOf m) b2 cap2 wr HNE.out ((HE.out.ext HX2.out).ext HEX.out) HOK.out (by omega) hat2 hb2); rw [← HRJ.out] at HJ; clear hat2 hb2 hA2 hall2; generalize (fieldsOf m).length = fl at *; go_wp2_with fail; refine HJ.out.mono ?_; rintro e w6 ⟨⟨jv, rfl, hjv⟩, hE6⟩; have HJV := Lib.hid hjv; have HX6 := Lib.hid ((HX2.out.trans HEX.out).trans hE6); have hsz := (HX2.out.trans HEX.out).size; have HSZ := Lib.hid hsz; clear hjv hE6 hsz; go_wp2; go_ret2; refine ⟨⟨jv, rfl, ?_⟩, HX6.out⟩; have := HJV.out; split
      · rename_i h2
        rw [if_pos h2] at this; exact this.more HSZ.out
      · rename_i h2
        rw [if_neg h2] at this; exact this
 · have hRe : R = ([], v1) := by
    rw [← HR.out, encode_bad (by rw [HVV.out]; exact h0), HVV.out]
   subst hRe; have hne : (v1 != 0) = true := by simpa using h0
   have H0 := Lib.hid h0; clear h0; go_enter Tryz.func15, Tryz.ntmps15
   go_wp2_with fail; refine (HV.out _).mono ?_; rintro e w1 ⟨rfl, hE1⟩; go_wp2; go_ret2; exact ⟨⟨_, rfl, by have := H0.out; simp [this]⟩, HX.out.trans hE1⟩
end
section
open Go Go.RowKit
set_option maxHeartbeats 3200000
theorem knownTag_hit {tag : Int} {k : Nat} (hk : k < 17) (h : (findSlot (slotsOf (k + 1)) tag).isSome = true) : knownTag tag = true := by
 unfold knownTag; rw [List.any_eq_true]; exact ⟨k, by simpa using hk, h⟩
theorem knownTag_miss {tag : Int} (h : ∀ j : Nat, j < 17 → findSlot (slotsOf (j + 1)) tag = none) : knownTag tag = false := by
 unfold knownTag; rw [List.any_eq_false]; intro k hk; rw [h k (by simpa using hk)]; simp
theorem known_calls (tag : Int) (w : World) : Calls Tryz.prog 91 #[.int .i64 tag] w fun e w' => e = .returned (.bool (knownTag tag)) ∧ Ext w w' := by
 obtain ⟨R, hR⟩ : ∃ R, knownTag tag = R := ⟨_, rfl⟩
 rw [hR]; have HR := Lib.hid hR; clear hR; go_enter Tryz.func91, Tryz.ntmps91
 go_wp2_with fail; refine (types_calls _).mono ?_; rintro e w1 ⟨rfl, _, hE1, hlt1⟩; have HE1 := Lib.hid hE1; clear hE1 hlt1; go_wp2_with fail; go_loopw [8] (fun i wr => ∃ k : Nat, k ≤ 17 ∧ i = .int .i64 k ∧ (∀ j : Nat, j < k → findSlot (slotsOf (j + 1)) tag = none) ∧ Ext w wr) (fun i _ => 17 - (intOf i).toNat)
 case atStart => exact ⟨0, by omega, rfl, fun j hj => by omega, HE1.out⟩
 case round =>
  obtain ⟨k, hk, rfl, hno, hX⟩ := hrel; have HNO := Lib.hid hno; have HX := Lib.hid hX; clear hno hX; by_cases hlt : k < 17
  · go_wp2_with fail; refine (slots_calls _ _).mono ?_; rintro e w2 ⟨⟨v, rfl, hown⟩, hE2⟩; have HF := Lib.hid (find_calls v (slotsOf (k + 1)) tag w2 (by have := slotsOf_len ((k : Int) + 1); omega) hown.reads); have HE2 := Lib.hid (HX.out.trans hE2); clear hown hE2; go_wp2_with fail; refine HF.out.mono ?_; rintro e w3 ⟨rfl, hE3⟩; have HE3 := Lib.hid (HE2.out.trans hE3); clear hE3 HF; cases hf : findSlot (slotsOf (k + 1)) tag with
    | none =>
     have HN := Lib.hid hf; clear hf; unfold findV; have hb : (w3.alloc (.cells #[.int .i64 0, .int .i64 0, .bool false] 76)).heap[w3.heap.size]? = some (.cells #[.int .i64 0, .int .i64 0, .bool false] 76) := heap_alloc_new w3 _; have HBB := Lib.hid hb; clear hb; go_wp2; go_roundw
     case rel =>
      refine ⟨k + 1, by omega, by go_num, ?_, ?_⟩
      · intro j hj; by_cases hjk : j = k
        · subst hjk; exact HN.out
        · exact HNO.out j (by omega)
      · exact HE3.out.alloc _
     case measure => simp [intOf]; omega
    | some s =>
     have hk1 : knownTag tag = true := knownTag_hit hlt (by rw [hf]; rfl); obtain rfl : R = true := by rw [← HR.out]; exact hk1
     clear hf hk1; unfold findV slotV; go_wp2; go_ret; exact ⟨rfl, HE3.out.alloc _⟩
  · obtain rfl : k = 17 := by omega
    obtain rfl : R = false := by rw [← HR.out]; exact knownTag_miss HNO.out
    go_wp2; go_ret; exact ⟨rfl, HX.out⟩
end
section
open Go Go.RowKit
set_option maxHeartbeats 3200000
attribute [local go_sem] ba_get
theorem form_reader (a b c d : Value) (w : World) : (Instr.field 130 (.agg #[a, b, c, d]) 3).run Tryz.prog w = .ok d w := by kernel_rfl
attribute [local go_sem] form_reader
structure Fits (w w' : World) (e : Ending) (g : Nat) (m : Msg) (r : Option Msg) : Prop where
 is : e = .returned (.bool r.isSome)
 msg : MsgAt w' g (r.getD m)
 grown : w.grownBy w' (some g)
theorem slotFits_calls (s : Slot) (g : Nat) (m : Msg) (v : List UInt8) (w : World) (hM : MsgAt w g m) (hE : Env w) (hn : s.tag ≠ 98 → s.tag ≠ 18 → s.tag ≠ 530 → s.num ∈ numbered) (hl : v.length ≤ 1000000) :
 Calls Tryz.prog 92 #[.agg (slotV s), .pointer (some ⟨g, 0, none⟩), .string ⟨v.toArray⟩] w fun e w' => Fits w w' e g m (fitsIn s m v) := by
 obtain ⟨t, n, mu⟩ := s; unfold slotV; obtain ⟨R, hR⟩ : ∃ R, fitsIn ⟨t, n, mu⟩ m v = R := ⟨_, rfl⟩
 rw [hR]; unfold fitsIn at hR; dsimp only at hR hn ⊢; have HR := Lib.hid hR; have HM := Lib.hid hM; have HE := Lib.hid hE; have HN := Lib.hid hn; have HL := Lib.hid hl; clear hR hM hE hn hl; by_cases h98 : t = 98
 · subst h98; by_cases hv : v = [48]
   · subst hv; obtain rfl : R = some m := by rw [← HR.out]; rfl
     go_enter Tryz.func92, Tryz.ntmps92
     go_wp2; go_ret; exact ⟨rfl, HM.out.ext ((Ext.refl _).alloc _), turned_ext ((Ext.refl _).alloc _) _⟩
   · have hv' : (v == [48]) = false := by simpa using hv
     obtain rfl : R = none := by rw [← HR.out]; simp [hv]
     clear HR; go_enter Tryz.func92, Tryz.ntmps92
     go_wp2; go_ret; exact ⟨rfl, HM.out.ext ((Ext.refl _).alloc _), turned_ext ((Ext.refl _).alloc _) _⟩
 have n98 : (t == 98) = false := by simpa using h98
 by_cases h18 : t = 18
 · subst h18; by_cases hv : v = [54]
   · subst hv; obtain rfl : R = some m := by rw [← HR.out]; rfl
     clear n98 h98; go_enter Tryz.func92, Tryz.ntmps92
     go_wp2; go_ret; exact ⟨rfl, HM.out.ext ((Ext.refl _).alloc _), turned_ext ((Ext.refl _).alloc _) _⟩
   · have hv' : (v == [54]) = false := by simpa using hv
     obtain rfl : R = none := by rw [← HR.out]; simp [hv]
     clear n98 h98 HR; go_enter Tryz.func92, Tryz.ntmps92
     go_wp2; go_ret; exact ⟨rfl, HM.out.ext ((Ext.refl _).alloc _), turned_ext ((Ext.refl _).alloc _) _⟩
 have n18 : (t == 18) = false := by simpa using h18
 by_cases h530 : t = 530
 · subst h530; by_cases hv : v = [49]
   · subst hv; obtain rfl : R = some m := by rw [← HR.out]; rfl
     clear n98 h98 n18 h18; go_enter Tryz.func92, Tryz.ntmps92
     go_wp2; go_ret; exact ⟨rfl, HM.out.ext ((Ext.refl _).alloc _), turned_ext ((Ext.refl _).alloc _) _⟩
   · by_cases hv2 : v = [55]
     · subst hv2; obtain rfl : R = some m := by rw [← HR.out]; rfl
       clear n98 h98 n18 h18 hv; go_enter Tryz.func92, Tryz.ntmps92
       go_wp2; go_ret; exact ⟨rfl, HM.out.ext ((Ext.refl _).alloc _), turned_ext ((Ext.refl _).alloc _) _⟩
     · have hv' : (v == [49]) = false := by simpa using hv
       have hv2' : (v == [55]) = false := by simpa using hv2
       obtain rfl : R = none := by rw [← HR.out]; simp [hv, hv2]
       clear n98 h98 n18 h18 HR; go_enter Tryz.func92, Tryz.ntmps92
       go_wp2; go_ret; exact ⟨rfl, HM.out.ext ((Ext.refl _).alloc _), turned_ext ((Ext.refl _).alloc _) _⟩
 have n530 : (t == 530) = false := by simpa using h530
 have hR2 : R = ((formAt n).read v).map fun c => m.set (cellOf n) c := by rw [← HR.out, n98, n18, n530]; rfl
 have HRR := Lib.hid hR2; have HNN := Lib.hid (HN.out h98 h18 h530); have finish : ∀ (w0 : World), Ext w w0 → RowKit.Hid (MsgAt w0 g m ∧ Env w0) := fun w0 h => Lib.hid ⟨HM.out.ext h, HE.out.ext h⟩
 have HFIN := Lib.hid finish; clear finish HR HN hR2 h98 h18 h530; go_enter Tryz.func92, Tryz.ntmps92
 go_wp2_with fail; refine (formOf_calls n HNN.out _).mono ?_; rintro e w1 ⟨⟨fv, rfl, hv⟩, hE1⟩; have hX1 : Ext w w1 := ((Ext.refl w).alloc _).trans hE1; have HX1 := Lib.hid hX1; clear hE1 hX1; obtain ⟨fa, fb, fc, e, ⟨ga, ca, rfl, ea, ha⟩, ⟨gb', cb, rfl, eb, hb⟩, ⟨gc, cc, rfl, ec, hcc⟩⟩ := hv.is; subst e; have hec : ∀ args w, (callFunc gc args).run Tryz.prog w = .ok (.enter gc args) w := ec; have HC := Lib.hid (hcc w1 (Keep.of (Ext.refl _)) (HFIN.out w1 HX1.out).out.2 g m v (HFIN.out w1 HX1.out).out.1 HL.out); clear ea ha eb hb ec hcc hv; go_wp2_with fail; refine HC.out.mono ?_; rintro e w2 ⟨rfl, hm2, hg2⟩; go_wp2; go_ret; have hs : ((formAt n).read v).isSome = R.isSome := by rw [HRR.out]; simp
 refine ⟨by rw [hs]; rfl, ?_, turned_trans (turned_ext HX1.out _) hg2⟩; rw [HRR.out]; cases h : (formAt n).read v with
 | none => rw [h] at hm2; exact hm2
 | some c => rw [h] at hm2; exact hm2
end
section
open Go Go.RowKit
structure Rl where
 R : World → World → Prop
 refl : ∀ w, R w w
 trans : ∀ {a b c}, R a b → R b c → R a c
 drew : ∀ w, R w w.drew
structure Rl.Post (X : Rl) where
 p : Value → World → Prop
 mono : ∀ v w w', p v w → X.R w w' → p v w'
def Rl.Post.is {X : Rl} (x : Value) : X.Post := ⟨fun v _ => v = x, fun _ _ _ h _ => h⟩
def Rl.Post.any {X : Rl} : X.Post := ⟨fun _ _ => True, fun _ _ _ h _ => h⟩
section
variable {P : Program} {ops : Array Oper} {Q : Exit → Act → World → Prop}
theorem wp_region_rel (X : Rl) {id : Nat} {dr : Bool} {a : Act} {w : World} (hm : dr = true → P.follows .mixedOrders = true)
 (Post : Nat → Value → World → Prop)
 (hdst : ∀ (i j : Nat) (oi oj : Oper) d, ops[i]? = some oi → ops[j]? = some oj → oi.dst = some d → oj.dst = some d → i = j)
 (hin : ∀ (i : Nat) (o : Oper) d, ops[i]? = some o → o.dst = some d → d < a.tmps.size)
 (hacyc : ∀ i o, ops[i]? = some o → ∀ e ∈ o.after, Region.binds .any e = true → e.on < i)
 (hmono : ∀ i v w w', Post i v w → X.R w w' → Post i v w')
 (hstep : ∀ i o, ops[i]? = some o → ∀ (ρ : Operand → Value) w', X.R w w' →
   (∀ x, (∀ (j : Nat) (oj : Oper) d, ops[j]? = some oj → oj.dst = some d → x ≠ .tmp d) → ρ x = a.eval x) →
   (∀ e ∈ o.after, Region.binds .any e = true → ∀ (oe : Oper) d, ops[e.on]? = some oe → oe.dst = some d → Post e.on (ρ (.tmp d)) w') →
   (wantedBy ops ρ o = true ∧ Gives P o ρ w' (fun v w'' => X.R w' w'' ∧ Post i v w'')) ∨ (wantedBy ops ρ o = false ∧ Post i undef w'))
 (hend : ∀ a' w', X.R w w' → a'.defers = a.defers → a'.tmps.size = a.tmps.size →
   (∀ x, (∀ (j : Nat) (oj : Oper) d, ops[j]? = some oj → oj.dst = some d → x ≠ .tmp d) → a'.eval x = a.eval x) →
   (∀ (i : Nat) (o : Oper) d, ops[i]? = some o → o.dst = some d → Post i (a'.eval (.tmp d)) w') → (∀ (i : Nat) (o : Oper), ops[i]? = some o → o.dst = none → ∃ v, Post i v w') → Q .normal a' w') :
 (Code.region id ops dr).wp P Q a w := by
 have key : ∀ (I : (Nat → Bool) → Act → World → Prop) (h0 : ∀ w', X.R w w' → I (fun _ => false) a w')
     (hs : ∀ D a w i o, I D a w → ops[i]? = some o → D i = false → (∀ e ∈ o.after, Region.binds .any e = true → D e.on = true) →
       wpOp P ops Q i (fun a' w' => I (fun k => k == i || D k) a' w') a w)
     (hext : ∀ D D' a w, (∀ k, k < ops.size → D k = D' k) → I D a w → I D' a w)
     (hend : ∀ D a w, I D a w → (∀ i, i < ops.size → D i = true) → Q .normal a w), (Code.region id ops dr).wp P Q a w := by
  intro I h0 hs hext hend; cases dr with
  | true => exact wp_region_inv (hm rfl) I (h0 _ (X.drew w)) hs hext hend hacyc
  | false => exact wp_text_inv I (h0 _ (X.refl w)) hs hext hend hacyc
 refine key (fun D a' w' => X.R w w' ∧ a'.defers = a.defers ∧ a'.tmps.size = a.tmps.size ∧
  (∀ x, (∀ (j : Nat) (oj : Oper) d, ops[j]? = some oj → oj.dst = some d → x ≠ .tmp d) → a'.eval x = a.eval x) ∧
  (∀ (i : Nat) (o : Oper) d, ops[i]? = some o → D i = true → o.dst = some d → Post i (a'.eval (.tmp d)) w') ∧ (∀ (i : Nat) (o : Oper), ops[i]? = some o → D i = true → o.dst = none → ∃ v, Post i v w')) ?_ ?_ ?_ ?_
 · exact fun w' hw' => ⟨hw', rfl, rfl, fun _ _ => rfl, fun _ _ _ _ h => (by cases h), fun _ _ _ h => (by cases h)⟩
 · rintro D a' w' i o ⟨h1, h2, h3, h4, h5, h6⟩ ho hD haf; have after : ∀ v w'', X.R w' w'' → Post i v w'' →
       X.R w w'' ∧ (a'.put o.dst v).defers = a.defers ∧ (a'.put o.dst v).tmps.size = a.tmps.size ∧
       (∀ x, (∀ (j : Nat) (oj : Oper) d, ops[j]? = some oj → oj.dst = some d → x ≠ .tmp d) → (a'.put o.dst v).eval x = a.eval x) ∧
       (∀ (j : Nat) (oj : Oper) d, ops[j]? = some oj → (j == i || D j) = true → oj.dst = some d → Post j ((a'.put o.dst v).eval (.tmp d)) w'') ∧
       (∀ (j : Nat) (oj : Oper), ops[j]? = some oj → (j == i || D j) = true → oj.dst = none → ∃ v, Post j v w'') := by
    intro v w'' hE hP; refine ⟨X.trans h1 hE, ?_, ?_, ?_, ?_, ?_⟩
    · cases ho' : o.dst <;> simp [Act.put, h2]
    · cases ho' : o.dst <;> simp [Act.put, h3]
    · intro x hx; rw [Act.eval_put (fun d hd => hx i o d ho hd)]; exact h4 x hx
    · intro j oj d hoj hDj hd; by_cases hji : j = i
      · subst hji; have : oj = o := by rw [ho] at hoj; exact (Option.some.inj hoj).symm
        subst this; have hlt := hin j oj d hoj hd; have : (a'.put oj.dst v).eval (.tmp d) = v := by
         simp [Act.eval, Act.put, hd, h3 ▸ hlt]
        rw [this]; exact hP
      · have hne : ∀ d', o.dst = some d' → Operand.tmp d ≠ .tmp d' := fun d' hd' he => by
         cases he
         exact hji (hdst j i oj o d hoj ho hd hd')
        rw [Act.eval_put hne]; have hjD : D j = true := by
         have : (j == i) = false := by simpa using hji
         simpa [this] using hDj
        exact hmono _ _ _ _ (h5 j oj d hoj hjD hd) hE
    · intro j oj hoj hDj hd; by_cases hji : j = i
      · subst hji; exact ⟨v, hP⟩
      · have hjD : D j = true := by
         have : (j == i) = false := by simpa using hji
         simpa [this] using hDj
        obtain ⟨u, hu⟩ := h6 j oj hoj hjD hd; exact ⟨u, hmono _ _ _ _ hu hE⟩
   unfold wpOp; simp only [ho]; rw [wanted_eq (a := a') (fun i o d ho hd => h3 ▸ hin i o d ho hd)]; rcases hstep i o ho a'.eval w' h1 h4 (fun e he hb oe d hoe hd => h5 e.on oe d hoe (haf e he hb) hd) with ⟨hw, hG⟩ | ⟨hw, hP⟩
   · rw [if_pos hw]; exact .inl (Gives.wp hG fun v w'' ⟨hE, hP⟩ => after v w'' hE hP)
   · rw [hw, if_neg (by simp)]; exact after undef w' (X.refl _) hP
 · rintro D D' a' w' hDD ⟨h1, h2, h3, h4, h5, h6⟩; exact ⟨h1, h2, h3, h4, fun i o d ho hD hd => h5 i o d ho (by rw [hDD i (Array.getElem?_eq_some_iff.1 ho).1]; exact hD) hd, fun i o ho hD hd => h6 i o ho (by rw [hDD i (Array.getElem?_eq_some_iff.1 ho).1]; exact hD) hd⟩
 · rintro D a' w' ⟨h1, h2, h3, h4, h5, h6⟩ hall; exact hend a' w' h1 h2 h3 h4 (fun i o d ho hd => h5 i o d ho (hall i (Array.getElem?_eq_some_iff.1 ho).1) hd) (fun i o ho hd => h6 i o ho (hall i (Array.getElem?_eq_some_iff.1 ho).1) hd)
theorem wp_region_rsteps (X : Rl) {id : Nat} {dr : Bool} {a : Act} {w : World} (hm : dr = true → P.follows .mixedOrders = true)
 (posts : List X.Post)
 (hok : regionOk ops a.tmps.size = true)
 (hstep : StepsFrom (fun i o => ∀ (ρ : Operand → Value) w', X.R w w' → (∀ x, touched ops x = false → ρ x = a.eval x) →
   (∀ (j : Nat) (d : Tmp), (o.after.toList.any fun e => e.on == j && Region.binds .any e) = true → (ops[j]?).bind (fun o : Oper => o.dst) = some d → ((posts[j]?).getD Rl.Post.any).p (ρ (.tmp d)) w') →
   (wantedBy ops ρ o = true ∧ Gives P o ρ w' (fun v w'' => X.R w' w'' ∧ ((posts[i]?).getD Rl.Post.any).p v w'')) ∨ (wantedBy ops ρ o = false ∧ ((posts[i]?).getD Rl.Post.any).p undef w')) 0 ops.toList)
 (hend : ∀ a' w', X.R w w' → a'.defers = a.defers → a'.tmps.size = a.tmps.size → (∀ x, touched ops x = false → a'.eval x = a.eval x) →
   (∀ (j : Nat) (d : Tmp), (ops[j]?).bind (fun o : Oper => o.dst) = some d → ((posts[j]?).getD Rl.Post.any).p (a'.eval (.tmp d)) w') →
   (∀ j : Nat, (ops[j]?).map (fun o : Oper => o.dst) = some none → ∃ v, ((posts[j]?).getD Rl.Post.any).p v w') → Q .normal a' w') :
 (Code.region id ops dr).wp P Q a w := by
 simp only [regionOk, Bool.and_eq_true, List.all_eq_true, decide_eq_true_eq, List.mem_range] at hok; obtain ⟨⟨h1, h2⟩, h3⟩ := hok; refine wp_region_rel X hm (fun i v w => ((posts[i]?).getD Rl.Post.any).p v w) ?_ ?_ ?_ ?_ ?_ ?_
 · intro i j oi oj d hi hj; exact nodup_filterMap h2 i j oi oj d (by simpa using hi) (by simpa using hj)
 · intro i o d ho hd; exact h1 d (List.mem_filterMap.2 ⟨o, by simpa using Array.mem_of_getElem? ho, hd⟩)
 · intro i o ho e he hb; have := h3 i (Array.getElem?_eq_some_iff.1 ho).1; simp only [ho, Option.map_some, Option.getD_some, Array.all_eq_true_iff_forall_mem] at this; have := this e he; simpa [hb] using this
 · intro i v w w' hp hE; exact Rl.Post.mono _ v w w' hp hE
 · intro i o ho ρ w' hE hB hD; have hs := StepsFrom.at hstep i o (by simpa using ho); rw [Nat.zero_add] at hs; refine hs ρ w' hE (fun x hx => hB x (touched_spec hx)) ?_; intro j d hj hd; rw [List.any_eq_true] at hj; obtain ⟨e, he, hj⟩ := hj; simp only [Bool.and_eq_true, beq_iff_eq] at hj; obtain ⟨rfl, hb⟩ := hj; have he : e ∈ o.after := by simpa using he
   cases hoe : ops[e.on]? with
   | none => simp [hoe] at hd
   | some oe => exact hD e he hb oe d hoe (by simpa [hoe] using hd)
 · intro a' w' hE h4 h5 hB hP hN; refine hend a' w' hE h4 h5 (fun x hx => hB x (touched_spec hx)) ?_ ?_
   · intro j d hd; cases hoe : ops[j]? with
     | none => simp [hoe] at hd
     | some oe => exact hP j oe d hoe (by simpa [hoe] using hd)
   · intro j hd; cases hoe : ops[j]? with
     | none => simp [hoe] at hd
     | some oe => exact hN j oe hoe (by simpa [hoe] using hd)
end
structure RetsR (g h : Nat) (c d : Obj) (w w' : World) : Prop where
 os : w'.os = w.os
 tape : w'.tape = w.tape
 output : w'.output = w.output
 size : w'.heap.size = w.heap.size
 block : ∀ k, k ≠ g → k ≠ h → w'.heap[k]? = w.heap[k]?
 one : w'.heap[g]? = w.heap[g]? ∨ w'.heap[g]? = some c
 two : w'.heap[h]? = w.heap[h]? ∨ w'.heap[h]? = some d
def Rets (g h : Nat) (c d : Obj) : Rl where
 R := RetsR g h c d
 refl w := ⟨rfl, rfl, rfl, rfl, fun _ _ _ => rfl, Or.inl rfl, Or.inl rfl⟩
 trans a b := ⟨b.os.trans a.os, b.tape.trans a.tape, b.output.trans a.output, b.size.trans a.size, fun k h1 h2 => (b.block k h1 h2).trans (a.block k h1 h2),
  (by rcases b.one with h | h
      · rw [h]; exact a.one
      · exact Or.inr h),
  (by rcases b.two with h | h
      · rw [h]; exact a.two
      · exact Or.inr h)⟩
 drew w := ⟨rfl, rfl, rfl, rfl, fun _ _ _ => rfl, Or.inl rfl, Or.inl rfl⟩
theorem RetsR.cell {g h : Nat} {c d : Obj} {w w' : World} (hr : RetsR g h c d w w') {b o : Nat} {v : Value} (hc : w.cell? ⟨b, o, none⟩ = some v) (h1 : b ≠ g) (h2 : b ≠ h) : w'.cell? ⟨b, o, none⟩ = some v :=
 (World.cell?_of_block (a := ⟨b, o, none⟩) (hr.block b h1 h2)).trans hc
theorem RetsR.row {g h : Nat} {c d : Obj} {w w' : World} (hr : RetsR g h c d w w') {b : Nat} (h1 : b ≠ g) (h2 : b ≠ h) : rowOf w' b = rowOf w b := by
 unfold rowOf; rw [hr.block b h1 h2]
theorem RetsR.ext {W : World} {g h : Nat} {c d : Obj} {w w' : World} (hr : RetsR g h c d w w') (hE : Ext W w) (hg : W.heap.size ≤ g) (hh : W.heap.size ≤ h) : Ext W w' :=
 ⟨hr.os.trans hE.os, hr.tape.trans hE.tape, hr.output.trans hE.output, by rw [hr.size]; exact hE.size, fun k hk => (hr.block k (by omega) (by omega)).trans (hE.block k hk)⟩
theorem heap_setRow {w : World} {g : Nat} {old cells : Array Value} {t : TypeId} (h : w.heap[g]? = some (.cells old t)) : (w.setRow g cells).heap[g]? = some (.cells cells t) := by
 simp only [World.setRow, Array.getElem?_modify, h, if_true, Option.map_some]
theorem heap_setRow_ne {w : World} {g k : Nat} {cells : Array Value} (h : k ≠ g) : (w.setRow g cells).heap[k]? = w.heap[k]? := by
 simp only [World.setRow, Array.getElem?_modify]; rw [if_neg (by omega)]
theorem setRow_size (w : World) (g : Nat) (cells : Array Value) : (w.setRow g cells).heap.size = w.heap.size := by simp [World.setRow]
theorem gives_store {P : Program} {dst : Option Tmp} {ty tyo : TypeId} {x y : Operand} {pos : String} {after : Array Edge} {gd : Option (Nat × Bool)} {ρ : Operand → Value} {w : World} {R : Value → World → Prop}
 (g : Nat) (cells old : Array Value) (t : TypeId) (hx : ρ x = .pointer (some ⟨g, 0, none⟩)) (hy : ρ y = .agg cells) (hg : w.heap[g]? = some (.cells old t)) (hi : (P.info? ty).map (·.size) = some cells.size)
 (ho : old.size = cells.size) (h1 : cells.all (·.oneCell') = true) (h : R undef (w.setRow g cells)) : Gives P { dst, op := .store ty x y, type := tyo, pos, after, guard := gd } ρ w R := by
 unfold Gives execOp; simp only [hx, hy, Instr.storeAt, Instr.sureAddr, Sem.run_bind, Sem.run_pure, Result.andThen_ok, run_storeVar_row w g t ty old cells hg hi ho h1]; exact h
theorem yr0 {X : Rl} {w : World} : X.R w w := X.refl w
theorem yr1 {X : Rl} {w : World} {α : Type} {x : α} : X.R w w ∧ x = x := ⟨X.refl w, rfl⟩
theorem yr2 {X : Rl} {w : World} : X.R w w ∧ True := ⟨X.refl w, trivial⟩
end
end Go.Proofs.YtdmjinlgdkgoiaaGreatDoor
