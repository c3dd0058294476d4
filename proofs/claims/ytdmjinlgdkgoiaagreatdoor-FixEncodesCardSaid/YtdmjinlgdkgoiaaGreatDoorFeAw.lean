/- Of the layer fix: RefKinds, RefCodes, RefRows, RefHas, RefVal, RefFits. -/
import Derived.Test.YtdmjinlgdkgoiaaGreatDoorFeAa
import Derived.Test.YtdmjinlgdkgoiaaGreatDoorFeAc
import Derived.Test.YtdmjinlgdkgoiaaGreatDoorFeAo
import Derived.Deep.AppendLies
import Derived.Deep.QuietTactic
import Derived.BigQuiet
import Derived.Lib.SmallJoins
set_option linter.unusedVariables false
set_option linter.unusedSimpArgs false
set_option maxRecDepth 100000
namespace Go.Proofs.YtdmjinlgdkgoiaaGreatDoor
section
open Go Go.RowKit
set_option maxHeartbeats 1600000
attribute [local go_sem] ba_get
def IsL (w : World) (v : Value) (ks : List Int) : Prop := ∃ A, v = .slice A ks.length ks.length ∧ ∀ j (h : j < ks.length), ∃ ad, A = some ad ∧ w.cell? (ad.add j) = some (.int .i64 ks[j])
theorem IsL.ext {w w' : World} {v : Value} {ks : List Int} (h : IsL w v ks) (hE : Ext w w') : IsL w' v ks := by
 obtain ⟨A, rfl, hA⟩ := h; refine ⟨A, rfl, fun j hj => ?_⟩; obtain ⟨ad, e, hc⟩ := hA j hj; exact ⟨ad, e, hE.cellA hc⟩
theorem amongR_calls (kind : Int) (ks : List Int) (v : Value) (w : World) (h : IsL w v ks) (hn : ks.length ≤ 100) :
 Calls Tryz.prog 202 #[.int .i64 kind, v] w fun e w' => e = .returned (.bool (amongL kind ks)) ∧ w = w' := by
 obtain ⟨A, rfl, hA⟩ := h; obtain ⟨R, hR⟩ : ∃ R, amongL kind ks = R := ⟨_, rfl⟩
 rw [hR]; have HA := Lib.hid hA; have HR := Lib.hid hR; clear hA hR; go_enter Tryz.func202, Tryz.ntmps202
 go_wp2; go_loop [5] (fun i => ∃ k : Nat, k ≤ ks.length ∧ i = .int .i64 k ∧ (ks.take k).any (fun x => x == kind || x == 0) = false) (fun i => ks.length - (intOf i).toNat)
 case atStart => exact ⟨0, Nat.zero_le _, rfl, rfl⟩
 case round =>
  obtain ⟨k, hk, rfl, hno⟩ := hrel; have HN := Lib.hid hno; clear hno; by_cases hlt : k < ks.length
  · obtain ⟨ad, rfl, hc⟩ := HA.out k hlt; obtain ⟨x, hx⟩ : ∃ x, ks[k] = x := ⟨_, rfl⟩
    rw [hx] at hc; have HX := Lib.hid hx; clear hx; by_cases h1 : x = kind ∨ x = 0
    · have e : R = isKind kind := by
       rw [← HR.out]; unfold amongL; have : ks.any (fun x => x == kind || x == 0) = true := List.any_eq_true.2 ⟨ks[k], List.getElem_mem _, by rw [HX.out]; simpa using h1⟩; rw [this, Bool.true_and]
      have hb : ((x == kind) = true) ∨ ((x == kind) = false ∧ (x == 0) = true) := by
       by_cases h2 : x = kind
       · exact .inl (by simpa using h2)
       · exact .inr ⟨by simpa using h2, by simpa using h1.resolve_left h2⟩
      have hK : isKind kind = true ∧ 1 ≤ kind ∧ kind ≤ 17 ∨ isKind kind = false ∧ kind < 1 ∨ isKind kind = false ∧ 1 ≤ kind ∧ 17 < kind := by
       unfold isKind; by_cases h3 : 1 ≤ kind
       · by_cases h4 : kind ≤ 17
         · left; simp [h3, h4]
         · right; right; refine ⟨by simp [h4], h3, by omega⟩
       · right; left; exact ⟨by simp [h3], by omega⟩
      clear h1; rcases hK with ⟨e2, h3, h4⟩ | ⟨e2, h3⟩ | ⟨e2, h3, h4⟩
      all_goals
       rw [e2] at e; subst e; clear e2; rcases hb with hb | ⟨hb1, hb2⟩
       all_goals
        go_wp2; go_ret; first | exact ⟨rfl, rfl⟩ | (refine ⟨?_, rfl⟩; simp; omega)
    · have h2 : (x == kind) = false := by simp; exact fun e => h1 (.inl e)
      have h3 : (x == 0) = false := by simp; exact fun e => h1 (.inr e)
      have HN2 : RowKit.Hid ((ks.take (k + 1)).any (fun x => x == kind || x == 0) = false) := Lib.hid (any_take_succ hlt HN.out (by rw [HX.out, h2, h3]; rfl)); clear h1; go_wp2; go_round
      case rel => exact ⟨k + 1, by omega, by go_num, HN2.out⟩
      case measure => simp [intOf]; omega
  · obtain rfl : k = ks.length := by omega
    have e : R = false := by
     rw [← HR.out]; have := HN.out; rw [List.take_length] at this; unfold amongL; rw [this]; rfl
    subst e; go_wp2; go_ret; exact ⟨rfl, rfl⟩
def rowV (r : Row) (mu ma : Value) : Array Value := #[.int .i64 r.num, .int .i64 (whatN r.what), .int .i64 r.lo, .int .i64 r.hi, .bool r.zero, mu, ma]
theorem rHas_calls (r : Row) (mu ma : Value) (l1 l2 : List Int) (kind : Int) (w : World) (h1 : IsL w mu l1) (h2 : IsL w ma l2) (n1 : l1.length ≤ 100) (n2 : l2.length ≤ 100) :
 Calls Tryz.prog 81 #[.agg (rowV r mu ma), .int .i64 kind] w fun e w' => e = .returned (.int .i64 (if amongL kind l1 then 2 else if amongL kind l2 then 1 else 0)) ∧ Ext w w' := by
 have hX := (Ext.refl w).alloc (.cells (rowV r mu ma) 135); have H1 := Lib.hid (amongR_calls kind l1 mu _ (h1.ext hX) n1); have H2 := Lib.hid (amongR_calls kind l2 ma _ (h2.ext hX) n2); have HX := Lib.hid hX; obtain ⟨a, ha⟩ : ∃ a, amongL kind l1 = a := ⟨_, rfl⟩
 obtain ⟨b, hb⟩ : ∃ b, amongL kind l2 = b := ⟨_, rfl⟩
 rw [ha] at H1 ⊢; rw [hb] at H2 ⊢; clear h1 h2 ha hb hX; unfold rowV at *; cases a <;> cases b
 all_goals
  go_enter Tryz.func81, Tryz.ntmps81
  go_wp2_with fail; refine H1.out.mono ?_; rintro e w' ⟨rfl, rfl⟩; go_wp2_with fail; refine H2.out.mono ?_; rintro e w' ⟨rfl, rfl⟩; go_wp2; go_ret; exact ⟨rfl, HX.out⟩
def kindCells (ks : List Int) : List Value := ks.map fun x => .int .i64 x
theorem isL_new (w : World) (ks : List Int) (t : TypeId) : IsL (w.alloc (.cells (kindCells ks).toArray t)) (.slice (some ⟨w.heap.size, 0, none⟩) ks.length ks.length) ks := by
 refine ⟨_, rfl, fun j hj => ⟨_, rfl, ?_⟩⟩; exact World.news_of_block (cs := (kindCells ks).toArray) (t := t) (fr := (0, 0)) (heap_alloc_new _ _) j _ (by simp [kindCells, hj])
end
section
open Go Go.RowKit
set_option maxHeartbeats 1600000
attribute [local go_sem] ba_get
def IsW (w : World) (v : Value) (ws : List (List UInt8)) : Prop := ∃ A, v = .slice A ws.length ws.length ∧ ∀ j (h : j < ws.length), ∃ ad, A = some ad ∧ w.cell? (ad.add j) = some (.string ⟨(ws[j]).toArray⟩)
theorem IsW.ext {w w' : World} {v : Value} {ws : List (List UInt8)} (h : IsW w v ws) (hE : Ext w w') : IsW w' v ws := by
 obtain ⟨A, rfl, hA⟩ := h; refine ⟨A, rfl, fun j hj => ?_⟩; obtain ⟨ad, e, hc⟩ := hA j hj; exact ⟨ad, e, hE.cellA hc⟩
def textCells (ws : List (List UInt8)) : List Value := ws.map fun x => .string ⟨x.toArray⟩
theorem isW_new (w : World) (ws : List (List UInt8)) (t : TypeId) : IsW (w.alloc (.cells (textCells ws).toArray t)) (.slice (some ⟨w.heap.size, 0, none⟩) ws.length ws.length) ws := by
 refine ⟨_, rfl, fun j hj => ⟨_, rfl, ?_⟩⟩; exact World.news_of_block (cs := (textCells ws).toArray) (t := t) (fr := (0, 0)) (heap_alloc_new _ _) j _ (by simp [textCells, hj])
theorem IsW.tail {w : World} {b : Nat} {x : List UInt8} {ws : List (List UInt8)} (h : IsW w (.slice (some ⟨b, 0, none⟩) (ws.length + 1) (ws.length + 1)) (x :: ws)) : IsW w (.slice (some ⟨b, 1, none⟩) ws.length ws.length) ws := by
 obtain ⟨A, e, hA⟩ := h
 injection e with e1 e2 e3
 subst e1; refine ⟨_, rfl, fun j hj => ⟨_, rfl, ?_⟩⟩; obtain ⟨ad, e, hc⟩ := hA (j + 1) (by simpa using hj)
 injection e with e
 subst e; have h : (⟨b, 1, none⟩ : Addr).add j = ⟨b, j + 1, none⟩ := by
  cases j with
  | zero => rfl
  | succ n => simp [Addr.add, Nat.add_comm]
 rw [h]; simpa [Addr.add] using hc
theorem isW_of {w w' : World} {v : Value} (ws : List (List UInt8)) (t : TypeId) (hw : w' = w.alloc (.cells (textCells ws).toArray t)) (hv : v = .slice (some ⟨w.heap.size, 0, none⟩) ws.length ws.length) : IsW w' v ws := by
 subst hw; subst hv; exact isW_new w ws t
def typesW : List (List UInt8) := [] :: typesL
theorem types5_calls (w : World) : Calls Tryz.prog 287 #[] w fun e w' => (∃ b, e = .returned (.slice (some ⟨b, 0, none⟩) 18 18) ∧ IsW w' (.slice (some ⟨b, 0, none⟩) 18 18) typesW) ∧ Ext w w' := by
 go_enter Tryz.func287, Tryz.ntmps287
 go_wp2; go_ret; exact ⟨⟨_, rfl, isW_new w typesW _⟩, (Ext.refl w).alloc _⟩
theorem first_calls (num : Int) (w : World) : Calls Tryz.prog 213 #[.int .i64 num] w fun e w' => e = .returned (.int .i64 (firstNo num)) ∧ w = w' := by
 unfold firstNo; rcases h : (num == 326) with _ | _
 all_goals
  go_enter Tryz.func213, Tryz.ntmps213
  go_wp2; go_ret; exact ⟨rfl, rfl⟩
theorem codes_calls (num : Int) (w : World) : Calls Tryz.prog 208 #[.int .i64 num] w fun e w' => (∃ v, e = .returned v ∧ match codesL num with | some c => IsW w' v c ∧ v ≠ .slice none 0 0 | none => v = .slice none 0 0) ∧ Ext w w' := by
 have hcase : num = 54 ∨ num = 40 ∨ num = 59 ∨ num = 150 ∨ num = 39 ∨ num = 326 ∨ num = 35 ∨ num = 372 ∨ (codesL num = none ∧ (num == 54) = false ∧ (num == 40) = false ∧ (num == 59) = false ∧ (num == 150) = false ∧ (num == 39) = false ∧ (num == 326) = false ∧ (num == 35) = false ∧ (num == 372) = false) := by
  by_cases a : num = 54
  · exact .inl a
  by_cases b : num = 40
  · exact .inr (.inl b)
  by_cases c : num = 59
  · exact .inr (.inr (.inl c))
  by_cases d : num = 150
  · exact .inr (.inr (.inr (.inl d)))
  by_cases e : num = 39
  · exact .inr (.inr (.inr (.inr (.inl e))))
  by_cases f : num = 326
  · exact .inr (.inr (.inr (.inr (.inr (.inl f)))))
  by_cases g : num = 35
  · exact .inr (.inr (.inr (.inr (.inr (.inr (.inl g))))))
  by_cases h : num = 372
  · exact .inr (.inr (.inr (.inr (.inr (.inr (.inr (.inl h)))))))
  · refine .inr (.inr (.inr (.inr (.inr (.inr (.inr (.inr ?_))))))); unfold codesL; simp [a, b, c, d, e, f, g, h]
 rcases hcase with rfl | rfl | rfl | rfl | rfl | rfl | rfl | rfl | ⟨e, a, b, c, d, f, g, h, i⟩
 case' inr.inr.inr.inr.inr.inr.inr.inr =>
  rw [e]; dsimp only; clear e; go_enter Tryz.func208, Tryz.ntmps208
  go_wp2; go_ret; exact ⟨⟨_, rfl, rfl⟩, Ext.refl _⟩
 case' inr.inr.inr.inr.inr.inr.inl =>
  show Calls _ _ _ _ fun e w' => (∃ v, e = .returned v ∧ IsW w' v typesL ∧ v ≠ .slice none 0 0) ∧ Ext w w'
  go_enter Tryz.func208, Tryz.ntmps208
  go_wp2_with fail; refine (types5_calls _).mono ?_; rintro e w1 ⟨⟨b, rfl, hw⟩, hE⟩; have HW := Lib.hid hw; clear hw; go_wp2; go_ret; exact ⟨⟨_, rfl, IsW.tail (ws := typesL) HW.out, by simp⟩, hE⟩
 case' inr.inr.inr.inr.inr.inr.inr.inl =>
  show Calls _ _ _ _ fun e w' => (∃ v, e = .returned v ∧ IsW w' v typesL ∧ v ≠ .slice none 0 0) ∧ Ext w w'
  go_enter Tryz.func208, Tryz.ntmps208
  go_wp2_with fail; refine (types5_calls _).mono ?_; rintro e w1 ⟨⟨b, rfl, hw⟩, hE⟩; have HW := Lib.hid hw; clear hw; go_wp2; go_ret; exact ⟨⟨_, rfl, IsW.tail (ws := typesL) HW.out, by simp⟩, hE⟩
 all_goals
  dsimp only [codesL]; go_enter Tryz.func208, Tryz.ntmps208
  go_wp2; go_ret; exact ⟨⟨_, rfl, isW_of (w := w) _ 9 rfl rfl, by simp⟩, (Ext.refl w).alloc _⟩
theorem tag_calls (kind n : Int) (w : World) : Calls Tryz.prog 85 #[.int .i64 kind, .int .i64 n] w fun e w' => e = .returned (.int .i64 (tagOf kind n)) ∧ w = w' := by
 unfold tagOf; rcases h : (n == 373) with _ | _
 · have h2 : (n != 373) = true := by simp only [bne, h]; rfl
   rw [if_neg (by simp)]; go_enter Tryz.func85, Tryz.ntmps85
   go_wp2; go_ret; exact ⟨rfl, rfl⟩
 · have h2 : (n != 373) = false := by simp only [bne, h]; rfl
   rw [if_pos rfl]; rcases h16 : (kind == 16) with _ | _ <;> rcases h14 : (kind == 14) with _ | _ <;> rcases h13 : (kind == 13) with _ | _ <;> rcases h15 : (kind == 15) with _ | _
   all_goals
    simp only [Bool.false_eq_true, if_false, if_true]; go_enter Tryz.func85, Tryz.ntmps85
    go_wp2; go_ret; exact ⟨rfl, rfl⟩
theorem among5_calls (n : Int) (ks : List Int) (v : Value) (w : World) (h : IsL w v ks) (hn : ks.length ≤ 100) :
 Calls Tryz.prog 288 #[.int .i64 n, v] w fun e w' => e = .returned (.bool (ks.contains n)) ∧ w = w' := by
 obtain ⟨A, rfl, hA⟩ := h; obtain ⟨R, hR⟩ : ∃ R, ks.contains n = R := ⟨_, rfl⟩
 rw [hR]; have HA := Lib.hid hA; have HR := Lib.hid hR; clear hA hR; go_enter Tryz.func288, Tryz.ntmps288
 go_wp2; go_loop [5] (fun i => ∃ k : Nat, k ≤ ks.length ∧ i = .int .i64 k ∧ (ks.take k).any (fun x => x == n) = false) (fun i => ks.length - (intOf i).toNat)
 case atStart => exact ⟨0, Nat.zero_le _, rfl, rfl⟩
 case round =>
  obtain ⟨k, hk, rfl, hno⟩ := hrel; have HN := Lib.hid hno; clear hno; by_cases hlt : k < ks.length
  · obtain ⟨ad, rfl, hc⟩ := HA.out k hlt; obtain ⟨x, hx⟩ : ∃ x, ks[k] = x := ⟨_, rfl⟩
    rw [hx] at hc; have HX := Lib.hid hx; clear hx; rcases hb : (x == n) with _ | _
    · have HN2 : RowKit.Hid ((ks.take (k + 1)).any (fun x => x == n) = false) := Lib.hid (any_take_succ hlt HN.out (by rw [HX.out, hb])); go_wp2; go_round
      case rel => exact ⟨k + 1, by omega, by go_num, HN2.out⟩
      case measure => simp [intOf]; omega
    · have e : R = true := by
       rw [← HR.out, List.contains_iff_mem]; rw [← show x = n by simpa using hb, ← HX.out]; exact List.getElem_mem _
      subst e; go_wp2; go_ret; exact ⟨rfl, rfl⟩
  · obtain rfl : k = ks.length := by omega
    have e : R = false := by
     rw [← HR.out]; have := HN.out; rw [List.take_length, List.any_eq_false] at this; rw [Bool.eq_false_iff]; intro h; rw [List.contains_iff_mem] at h; exact this n h (by simp)
    subst e; go_wp2; go_ret; exact ⟨rfl, rfl⟩
theorem isFlag_calls (num : Int) (w : World) : Calls Tryz.prog 209 #[.int .i64 num] w fun e w' => e = .returned (.bool (flagN num)) ∧ Ext w w' := by
 have H := Lib.hid (isL_new w [43, 123, 141] 3); have HX := Lib.hid ((Ext.refl w).alloc (.cells (kindCells [43, 123, 141]).toArray 3)); go_enter Tryz.func209, Tryz.ntmps209
 go_wp2_with fail; refine (among5_calls num [43, 123, 141] _ _ H.out (by decide)).mono ?_; rintro e w' ⟨rfl, rfl⟩; go_wp2; go_ret; exact ⟨by simp [flagN], HX.out⟩
theorem isPrice_calls (num : Int) (w : World) : Calls Tryz.prog 211 #[.int .i64 num] w fun e w' => e = .returned (.bool (priceN num)) ∧ Ext w w' := by
 have H := Lib.hid (isL_new w [44, 99, 31] 3); have HX := Lib.hid ((Ext.refl w).alloc (.cells (kindCells [44, 99, 31]).toArray 3)); go_enter Tryz.func211, Tryz.ntmps211
 go_wp2_with fail; refine (among5_calls num [44, 99, 31] _ _ H.out (by decide)).mono ?_; rintro e w' ⟨rfl, rfl⟩; go_wp2; go_ret; exact ⟨by simp [priceN], HX.out⟩
theorem isText5_calls (num : Int) (w : World) : Calls Tryz.prog 212 #[.int .i64 num] w fun e w' => e = .returned (.bool (textN num)) ∧ Ext w w' := by
 have H := Lib.hid (isL_new w [49, 56, 112, 58, 11, 41, 1, 55] 3); have HX := Lib.hid ((Ext.refl w).alloc (.cells (kindCells [49, 56, 112, 58, 11, 41, 1, 55]).toArray 3)); go_enter Tryz.func212, Tryz.ntmps212
 go_wp2_with fail; refine (among5_calls num [49, 56, 112, 58, 11, 41, 1, 55] _ _ H.out (by decide)).mono ?_; rintro e w' ⟨rfl, rfl⟩; go_wp2; go_ret; exact ⟨by simp [textN], HX.out⟩
theorem isTime5_calls (num : Int) (w : World) : Calls Tryz.prog 210 #[.int .i64 num] w fun e w' => e = .returned (.bool (timeN num)) ∧ w = w' := by
 unfold timeN; rcases h1 : (num == 52) with _ | _
 · rw [Bool.false_or]; go_enter Tryz.func210, Tryz.ntmps210
   go_wp2; go_ret; exact ⟨rfl, rfl⟩
 · rw [Bool.true_or]; go_enter Tryz.func210, Tryz.ntmps210
   go_wp2; go_ret; exact ⟨rfl, rfl⟩
end
section
open Go Go.RowKit
set_option maxHeartbeats 6400000
def allocAll (w : World) : List Obj → World
 | [] => w
 | o :: l => allocAll (w.alloc o) l
theorem allocAll_ext : ∀ (l : List Obj) (w : World), Ext w (allocAll w l)
 | [], w => Ext.refl w
 | o :: l, w => ((Ext.refl w).alloc o).trans (allocAll_ext l (w.alloc o))
theorem allocAll_new : ∀ (l : List Obj) (w : World) (i : Nat), i < l.length → (allocAll w l).heap[w.heap.size + i]? = l[i]?
 | [], w, i, h => by simp at h
 | o :: l, w, 0, h => by
  rw [Nat.add_zero]; exact (allocAll_ext l (w.alloc o)).heap (heap_alloc_new w o)
 | o :: l, w, i + 1, h => by
  have := allocAll_new l (w.alloc o) i (by simpa using h); have e : (w.alloc o).heap.size + i = w.heap.size + (i + 1) := by simp; omega
  rw [e] at this; exact this
def flat3 (xs : List Value) : List Value := xs.flatMap fun x => x.cells.toList
theorem flat3_at (n : Nat) : ∀ (xs : List Value), (∀ x ∈ xs, x.cells.size = n) → ∀ (k j : Nat) (x : Value), xs[k]? = some x → j < n → (flat3 xs)[n * k + j]? = x.cells[j]?
 | [], _, k, j, x, h, _ => by simp at h
 | y :: ys, hs, 0, j, x, h, hj => by
  simp at h; subst h
  have := hs y (by simp); simp only [flat3, List.flatMap_cons, Nat.mul_zero, Nat.zero_add]; rw [List.getElem?_append_left (by simp; omega)]; simp
 | y :: ys, hs, k + 1, j, x, h, hj => by
  simp at h; have hy := hs y (by simp); have ih := flat3_at n ys (fun z hz => hs z (by simp [hz])) k j x h hj; simp only [flat3, List.flatMap_cons] at ih ⊢; rw [List.getElem?_append_right (by simp [hy, Nat.mul_add]; omega)]; rw [← ih]; congr 1
  simp [hy, Nat.mul_add]
  omega
def laid3 : List (List Int) := [[8, 9, 10, 12, 13], [0], [0], [0], [0], [0], [0], [0], [7], [7], [2], [1], [3], [3], [5], [5], [4, 16], [16], [4], [4], [4, 16, 14], [13, 15], [5, 4, 6, 13, 14, 15, 16, 17], [8, 9, 10, 11, 12, 13, 14, 15], [9, 10, 14], [13], [8, 13], [11], [8, 9, 10, 12, 13, 17], [11, 15], [11], [8], [13], [8], [13], [8, 10, 13], [8, 10, 13], [8, 10, 13], [8, 13], [8], [8], [13, 14], [13], [13], [13, 14], [13], [13], [13], [13], [17], [15]]
def place3 : List (Option Nat × Option Nat) := [(some 1, none), (some 2, none), (some 3, none), (some 4, none), (none, some 5), (some 6, none), (none, some 7), (some 8, none), (none, some 9), (some 10, some 11), (some 12, none), (some 13, none), (some 14, none), (none, some 15), (some 16, none), (some 17, some 18), (none, some 19), (some 20, some 21), (none, some 22), (some 23, none), (some 24, some 25), (some 26, some 27), (some 28, some 29), (some 0, some 30), (some 31, some 32), (some 33, some 34), (none, some 35), (none, some 36), (some 37, none), (none, some 38), (none, some 39), (none, some 40), (some 41, none), (some 42, none), (some 43, none), (some 44, none), (none, some 45), (none, some 46), (some 47, none), (some 48, none), (some 49, none), (some 50, none)]
def listV (B : Nat) (p : Option Nat) (n : Nat) : Value := match p with
 | some i => .slice (some ⟨B + i, 0, none⟩) n n
 | none => .slice none 0 0
def rowVals3 (B : Nat) : List Value := List.zipWith (fun (r : Row) (q : (List Int × List Int) × (Option Nat × Option Nat)) => .agg (rowV r (listV B q.2.1 q.1.1.length) (listV B q.2.2 q.1.2.length))) rows3 (lists3.zip place3)
def objs3 (B : Nat) : List Obj := laid3.map (fun l => .cells (kindCells l).toArray 3) ++ [.cells (flat3 (rowVals3 B)).toArray 135]
structure Row3At (w : World) (b k : Nat) (r : Row) (mu ma : Value) : Prop where
 p0 : w.cell? ⟨b, k * 7, none⟩ = some (.int .i64 r.num)
 p1 : w.cell? ⟨b, k * 7 + 1, none⟩ = some (.int .i64 (whatN r.what))
 p2 : w.cell? ⟨b, k * 7 + 2, none⟩ = some (.int .i64 r.lo)
 p3 : w.cell? ⟨b, k * 7 + 3, none⟩ = some (.int .i64 r.hi)
 p4 : w.cell? ⟨b, k * 7 + 4, none⟩ = some (.bool r.zero)
 p5 : w.cell? ⟨b, k * 7 + 5, none⟩ = some mu
 p6 : w.cell? ⟨b, k * 7 + 6, none⟩ = some ma
def IsRows3 (w : World) (b : Nat) : Prop := ∀ k r l, rows3[k]? = some r → lists3[k]? = some l → ∃ mu ma, Row3At w b k r mu ma ∧ IsL w mu l.1 ∧ IsL w ma l.2
theorem IsRows3.ext {w w' : World} {b : Nat} (h : IsRows3 w b) (hE : Ext w w') : IsRows3 w' b := fun k r l hr hl => by
 obtain ⟨mu, ma, ⟨p0, p1, p2, p3, p4, p5, p6⟩, h1, h2⟩ := h k r l hr hl; exact ⟨mu, ma, ⟨hE.cell p0, hE.cell p1, hE.cell p2, hE.cell p3, hE.cell p4, hE.cell p5, hE.cell p6⟩, h1.ext hE, h2.ext hE⟩
theorem place_ok : (lists3.zip place3).all (fun q => (match q.2.1 with | some i => laid3[i]? == some q.1.1 | none => q.1.1.isEmpty) && (match q.2.2 with | some i => laid3[i]? == some q.1.2 | none => q.1.2.isEmpty)) = true := by decide
theorem listV_is (w : World) (p : Option Nat) (l : List Int) (h : (match p with | some i => laid3[i]? == some l | none => l.isEmpty) = true) : IsL (allocAll w (objs3 w.heap.size)) (listV w.heap.size p l.length) l := by
 cases p with
 | none =>
  have : l = [] := by simpa using h
  subst this; exact ⟨none, rfl, fun j hj => by simp at hj⟩
 | some i =>
  have hi : laid3[i]? = some l := by simpa using h
  have hlt := (List.getElem?_eq_some_iff.1 hi).1; refine ⟨_, rfl, fun j hj => ⟨_, rfl, ?_⟩⟩; have ho : (objs3 w.heap.size)[i]? = some (.cells (kindCells l).toArray 3) := by
   unfold objs3; rw [List.getElem?_append_left (by simpa using hlt), List.getElem?_map, hi]; rfl
  have hb := allocAll_new (objs3 w.heap.size) w i (by unfold objs3; simp; omega); rw [ho] at hb; exact World.news_of_block (cs := (kindCells l).toArray) (t := 3) (fr := (0, 0)) hb j _ (by simp [kindCells, hj])
theorem place3_len : place3.length = 42 := by decide
theorem isRows3 (w : World) : IsRows3 (allocAll w (objs3 w.heap.size)) (w.heap.size + 51) := by
 intro k r l hr hl; have hk : k < 42 := by
  have := (List.getElem?_eq_some_iff.1 hl).1
  rwa [lists3_len] at this
 obtain ⟨p, hp⟩ : ∃ p, place3[k]? = some p := ⟨place3[k]'(by rw [place3_len]; exact hk), List.getElem?_eq_getElem _⟩
 have hz : (lists3.zip place3)[k]? = some (l, p) := by rw [List.getElem?_zip_eq_some]; exact ⟨hl, hp⟩
 have hok := List.all_eq_true.1 place_ok (l, p) (List.mem_of_getElem? hz); simp only [Bool.and_eq_true] at hok; have hx : (rowVals3 w.heap.size)[k]? = some (.agg (rowV r (listV w.heap.size p.1 l.1.length) (listV w.heap.size p.2 l.2.length))) := by
  unfold rowVals3; rw [List.getElem?_zipWith, hr, hz]
 have hlast : (objs3 w.heap.size)[51]? = some (.cells (flat3 (rowVals3 w.heap.size)).toArray 135) := by
  unfold objs3; rw [List.getElem?_append_right (by rw [List.length_map]; decide)]; rfl
 have hb := allocAll_new (objs3 w.heap.size) w 51 (by unfold objs3; rw [List.length_append, List.length_map]; exact (show 51 < laid3.length + 1 by decide)); rw [hlast] at hb; have hsz : ∀ x ∈ rowVals3 w.heap.size, x.cells.size = 7 := by
  intro x hx; unfold rowVals3 at hx; obtain ⟨i, hi⟩ := List.getElem?_of_mem hx; rw [List.getElem?_zipWith] at hi
  revert hi
  cases rows3[i]? <;> cases (lists3.zip place3)[i]? <;> intro hi <;> simp at hi
  rw [← hi]; rfl
 have hc : ∀ j, j < 7 → (allocAll w (objs3 w.heap.size)).cell? ⟨w.heap.size + 51, k * 7 + j, none⟩ = (rowV r (listV w.heap.size p.1 l.1.length) (listV w.heap.size p.2 l.2.length))[j]? := by
  intro j hj; rw [cell_of_row _ _ _ _ _ (0, 0) hb]; have := flat3_at 7 (rowVals3 w.heap.size) hsz k j _ hx hj; rw [Nat.mul_comm] at this; simpa [Value.cells] using this
 exact ⟨_, _, ⟨hc 0 (by decide), hc 1 (by decide), hc 2 (by decide), hc 3 (by decide), hc 4 (by decide), hc 5 (by decide), hc 6 (by decide)⟩, listV_is w p.1 l.1 hok.1, listV_is w p.2 l.2 hok.2⟩
theorem all_calls (w : World) : Calls Tryz.prog 199 #[] w fun e w' => e = .returned (.slice (some ⟨w.heap.size, 0, none⟩) 1 1) ∧ w' = w.alloc (.cells #[.int .i64 0] 3) := by
 go_enter Tryz.func199, Tryz.ntmps199
 go_wp2; go_ret; exact ⟨rfl, rfl⟩
theorem allocAll_snoc : ∀ (l : List Obj) (w : World) (o : Obj), allocAll w (l ++ [o]) = (allocAll w l).alloc o
 | [], _, _ => rfl
 | x :: l, w, o => allocAll_snoc l (w.alloc x) o
theorem allocAll_size : ∀ (l : List Obj) (w : World), (allocAll w l).heap.size = w.heap.size + l.length
 | [], _ => rfl
 | x :: l, w => by
  show (allocAll (w.alloc x) l).heap.size = _
  rw [allocAll_size l (w.alloc x)]; simp
  omega
theorem oper_gen {P : Program} {o : Oper} {a : Act} {w : World} {K : Act → World → Prop} {Q : Exit → Act → World → Prop} (h : ∀ w', w = w' → o.wp P a w' K Q) : o.wp P a w K Q := h w rfl
theorem rows3_calls (w : World) : Calls Tryz.prog 79 #[] w fun e w' => (∃ b, e = .returned (.slice (some ⟨b, 0, none⟩) 42 42) ∧ IsRows3 w' b) ∧ Ext w w' := by
 have HR := Lib.hid (isRows3 w); have HX := Lib.hid (allocAll_ext (objs3 w.heap.size) w); have HSZ := Lib.hid (allocAll_size (laid3.map fun l => Obj.cells (kindCells l).toArray 3) w); have HSN := Lib.hid (allocAll_snoc (laid3.map fun l => Obj.cells (kindCells l).toArray 3) w (.cells (flat3 (rowVals3 w.heap.size)).toArray 135)); go_enter Tryz.func79, Tryz.ntmps79
 simp only [List.append_eq, List.cons_append, List.nil_append]; go_wp2_with (first | (go_at_call 199; refine (all_calls _).mono ?_; rintro e w' ⟨rfl, rfl⟩)); refine oper_gen fun W hW => ?_
 have hW2 : W = allocAll w (laid3.map fun l => Obj.cells (kindCells l).toArray 3) := hW.symm.trans (by kernel_rfl); have HW := Lib.hid hW2; clear hW hW2; refine Gives.wp (R := fun v w' => v = .slice (some ⟨W.heap.size, 0, none⟩) 42 42 ∧ w' = W.alloc (.cells (flat3 (rowVals3 w.heap.size)).toArray 135)) (gives_build _ _ (by kernel_rfl) ⟨rfl, rfl⟩) ?_; rintro v w' ⟨rfl, rfl⟩; go_wp2; go_ret; have hWA : W.alloc (.cells (flat3 (rowVals3 w.heap.size)).toArray 135) = allocAll w (objs3 w.heap.size) := by
  rw [HW.out]; exact HSN.out.symm
 refine ⟨⟨W.heap.size, rfl, ?_⟩, ?_⟩
 · rw [hWA, HW.out, HSZ.out]; exact HR.out
 · rw [hWA]; exact HX.out
end
section
open Go Go.RowKit
set_option maxHeartbeats 1600000
attribute [local go_sem] ba_get
theorem hasIn_no {kind n : Int} (h : isKind kind = false) : ∀ l, hasIn kind n l = 0
 | [] => rfl
 | r :: l => by
  unfold hasIn; simp [inSet, h, hasIn_no h l]
theorem hasIn_absent {kind n : Int} : ∀ {l : List Row}, (∀ r ∈ l, r.num ≠ n) → hasIn kind n l = 0
 | [], _ => rfl
 | r :: l, h => by
  unfold hasIn; rw [if_pos (by simpa using h r (by simp))]; exact hasIn_absent fun x hx => h x (by simp [hx])
theorem all_in {kind : Int} (h : isKind kind = true) : inSet allK kind = true := by
 have : kindsL.all (fun k => inSet allK k) = true := by decide
 exact List.all_eq_true.1 this _ (kind_mem h)
theorem has_found {k : Nat} {r : Row} (hr : rows3[k]? = some r) (kind : Int) : has kind r.num = if inSet r.must kind then 2 else if inSet r.may kind then 1 else 0 := by
 by_cases h : isKind kind = true
 · cases k with
   | zero =>
    obtain rfl : (⟨35, .num, 1, 17, false, allK, 0⟩ : Row) = r := Option.some.inj hr; show has kind 35 = if inSet allK kind then 2 else _
    rw [all_in h]; unfold has; rw [h]; rfl
   | succ j =>
    have := List.all_eq_true.1 (has_row _ (kind_mem h)) r (List.mem_of_getElem? (i := j) hr); simpa using this
 · have h : isKind kind = false := by simpa using h
   unfold has; rw [h, hasIn_no h]; simp [inSet, h]
theorem has_none {kind n : Int} (h : ∀ (k : Nat) (r : Row), rows3[k]? = some r → r.num ≠ n) : has kind n = 0 := by
 have h35 : (35 : Int) ≠ n := h 0 _ rfl; unfold has; rw [if_neg (by simp; intro e; exact absurd e.symm h35)]; exact hasIn_absent fun r hr => by
  obtain ⟨j, hj⟩ := List.getElem?_of_mem hr; exact h (j + 1) r hj
theorem lists_short : lists3.all (fun l => decide (l.1.length ≤ 100) && decide (l.2.length ≤ 100)) = true := by decide
theorem list_short {k : Nat} {l : List Int × List Int} (h : lists3[k]? = some l) : l.1.length ≤ 100 ∧ l.2.length ≤ 100 := by
 have := List.all_eq_true.1 lists_short l (List.mem_of_getElem? h); simpa using this
theorem rHasF_calls (kind n : Int) (w : World) : Calls Tryz.prog 84 #[.int .i64 kind, .int .i64 n] w fun e w' => e = .returned (.int .i64 (has kind n)) ∧ Ext w w' := by
 obtain ⟨R, hR⟩ : ∃ R, has kind n = R := ⟨_, rfl⟩
 rw [hR]; have HR := Lib.hid hR; clear hR; go_enter Tryz.func84, Tryz.ntmps84
 go_wp2_with fail; refine (rows3_calls _).mono ?_; rintro e w1 ⟨⟨b, rfl, hrows⟩, hE⟩; have HE := Lib.hid hE; have HROWS := Lib.hid hrows; clear hE hrows; go_wp2_with fail; go_loopw [6] (fun i wr => ∃ k : Nat, k ≤ 42 ∧ i = .int .i64 k ∧ Ext w1 wr ∧ ∀ j r, j < k → rows3[j]? = some r → r.num ≠ n) (fun i _ => 42 - (intOf i).toNat)
 case atStart => exact ⟨0, by omega, rfl, Ext.refl _, fun j r h => by omega⟩
 case round =>
  obtain ⟨k, hk, rfl, hE, hno⟩ := hrel; have HE2 := Lib.hid hE; have HNO := Lib.hid hno; clear hE hno; by_cases hlt : k < 42
  · obtain ⟨r, hr⟩ : ∃ r, rows3[k]? = some r := ⟨rows3[k]'(by rw [rows3_len]; exact hlt), List.getElem?_eq_getElem _⟩
    obtain ⟨l, hl⟩ : ∃ l, lists3[k]? = some l := ⟨lists3[k]'(by rw [lists3_len]; exact hlt), List.getElem?_eq_getElem _⟩
    obtain ⟨mu, ma, ⟨p0, p1, p2, p3, p4, p5, p6⟩, hmu, hma⟩ := (HROWS.out.ext HE2.out) k r l hr hl; obtain ⟨n1, n2⟩ := list_short hl; obtain ⟨a1, a2⟩ := among_is hr hl kind; have HH := Lib.hid (fun w0 (h : Ext wr w0) => rHas_calls r mu ma l.1 l.2 kind w0 (hmu.ext h) (hma.ext h) n1 n2); rw [a1, a2] at HH; have hf := has_found hr kind; rw [← hf] at HH; have HRR := Lib.hid hr; unfold rowV at HH; clear hmu hma n1 n2 a1 a2 hf hr hl; rcases hb : (r.num == n) with _ | _
    · have hne : r.num ≠ n := by simpa using hb
      have HNE := Lib.hid hne; clear hne; go_wp2; go_roundw
      case rel =>
       refine ⟨k + 1, by omega, by go_num, HE2.out, fun j r' hj hr' => ?_⟩; by_cases hjk : j = k
       · subst hjk; rw [HRR.out] at hr'; obtain rfl := Option.some.inj hr'; exact HNE.out
       · exact HNO.out j r' (by omega) hr'
      case measure => simp [intOf]; omega
    · have he : r.num = n := by simpa using hb
      have hRR : has kind r.num = R := by rw [he]; exact HR.out
      rw [hRR] at HH; clear he hRR; go_wp2_with fail; refine (HH.out _ (Ext.refl _)).mono ?_; rintro e w' ⟨rfl, hE5⟩; go_wp2; go_ret; exact ⟨rfl, (HE.out.trans HE2.out).trans hE5⟩
  · obtain rfl : k = 42 := by omega
    have e : R = 0 := by
     rw [← HR.out]; exact has_none fun j r hr => HNO.out j r (by
      have := (List.getElem?_eq_some_iff.1 hr).1
      rwa [rows3_len] at this) hr
    subst e; go_wp2; go_ret; exact ⟨rfl, HE.out.trans HE2.out⟩
end
section
open Go Go.RowKit
set_option maxHeartbeats 1600000
attribute [local go_sem ↓] loadVarMsg
attribute [local go_sem] ba_get loadRowMsg rowOf_new rowOf_old rowOf_drew
theorem cellI {m : Msg} (hm : WT m) {k : Nat} (hk : tys[k]? = some .I) : (msgV m)[k]? = some (.int .i64 (gi m k)) := by
 have hl : k < 42 := by
  have := (List.getElem?_eq_some_iff.1 hk).1
  rwa [show tys.length = 42 from by decide] at this
 rw [msgV_at hm hl, cellAt_int hm hk]
theorem cellS {m : Msg} (hm : WT m) {k : Nat} (hk : tys[k]? = some .S) : (msgV m)[k]? = some (.string ⟨(gs m k).toArray⟩) := by
 have hl : k < 42 := by
  have := (List.getElem?_eq_some_iff.1 hk).1
  rwa [show tys.length = 42 from by decide] at this
 rw [msgV_at hm hl, cellAt_str hm hk]
theorem cellB {m : Msg} (hm : WT m) {k : Nat} (hk : tys[k]? = some .B) : (msgV m)[k]? = some (.bool (gb m k)) := by
 have hl : k < 42 := by
  have := (List.getElem?_eq_some_iff.1 hk).1
  rwa [show tys.length = 42 from by decide] at this
 rw [msgV_at hm hl, cellAt_bool hm hk]
theorem gs_int {m : Msg} (hm : WT m) {k : Nat} (hk : tys[k]? = some .I) : gs m k = [] := by unfold gs; rw [hm.int hk]
theorem gs_bool {m : Msg} (hm : WT m) {k : Nat} (hk : tys[k]? = some .B) : gs m k = [] := by unfold gs; rw [hm.bool hk]
theorem truth_calls (b : Bool) (w : World) : Calls Tryz.prog 200 #[.bool b] w fun e w' => e = .returned (.int .i64 (if b then 1 else 0)) ∧ w = w' := by
 cases b
 all_goals
  go_enter Tryz.func200, Tryz.ntmps200
  go_wp2; go_ret; exact ⟨rfl, rfl⟩
def orderI : List (Nat × Int) := [(23, 54), (24, 40), (25, 59), (26, 44), (27, 99), (28, 38), (29, 111), (30, 110), (31, 432), (32, 37), (33, 17), (34, 150), (35, 39), (36, 31), (37, 32), (38, 151), (39, 14), (40, 326), (41, 533)]
def firstI : List (Nat × Int) := [(0, 35), (3, 34), (5, 52), (6, 122), (7, 108), (10, 7), (11, 16), (12, 36), (14, 45), (15, 372), (16, 371), (17, 373)]
def firstB : List (Nat × Int) := [(4, 43), (8, 141), (13, 123)]
def firstS : List (Nat × Int) := [(1, 49), (2, 56), (9, 112), (18, 58), (19, 11), (20, 41), (21, 1), (22, 55)]
theorem order_tys : ∀ p ∈ orderI ++ firstI, tys[p.1]? = some .I := by decide
theorem firstB_tys : ∀ p ∈ firstB, tys[p.1]? = some .B := by decide
theorem firstS_tys : ∀ p ∈ firstS, tys[p.1]? = some .S := by decide
theorem orderR_calls (m : Msg) (hm : WT m) (k : Nat) (n : Int) (hk : (k, n) ∈ orderI) (w : World) :
 Calls Tryz.prog 201 #[.agg (msgV m), .int .i64 n] w fun e w' => e = .returned (.int .i64 (gi m k)) ∧ Ext w w' := by
 have hs := msgV_size hm; have hx := cellI hm (order_tys (k, n) (List.mem_append_left _ hk)); simp only [orderI, List.mem_cons, Prod.mk.injEq, List.mem_nil_iff, or_false] at hk; rcases hk with ⟨rfl, rfl⟩ | ⟨rfl, rfl⟩ | ⟨rfl, rfl⟩ | ⟨rfl, rfl⟩ | ⟨rfl, rfl⟩ | ⟨rfl, rfl⟩ | ⟨rfl, rfl⟩ | ⟨rfl, rfl⟩ | ⟨rfl, rfl⟩ | ⟨rfl, rfl⟩ | ⟨rfl, rfl⟩ | ⟨rfl, rfl⟩ | ⟨rfl, rfl⟩ | ⟨rfl, rfl⟩ | ⟨rfl, rfl⟩ | ⟨rfl, rfl⟩ | ⟨rfl, rfl⟩ | ⟨rfl, rfl⟩ | ⟨rfl, rfl⟩
 all_goals
  go_enter Tryz.func201, Tryz.ntmps201
  go_wp2; go_ret; exact ⟨by simp [eq_of_get hx], (Ext.refl w).alloc _⟩
theorem value_int (m : Msg) (hm : WT m) (k : Nat) (n : Int) (hk : (k, n) ∈ firstI) (w : World) :
 Calls Tryz.prog 80 #[.agg (msgV m), .int .i64 n] w fun e w' => e = .returned (.tuple #[.int .i64 (gi m k), .string ⟨#[]⟩]) ∧ Ext w w' := by
 have hs := msgV_size hm; have hx := cellI hm (order_tys (k, n) (List.mem_append_right _ hk)); simp only [firstI, List.mem_cons, Prod.mk.injEq, List.mem_nil_iff, or_false] at hk; rcases hk with ⟨rfl, rfl⟩ | ⟨rfl, rfl⟩ | ⟨rfl, rfl⟩ | ⟨rfl, rfl⟩ | ⟨rfl, rfl⟩ | ⟨rfl, rfl⟩ | ⟨rfl, rfl⟩ | ⟨rfl, rfl⟩ | ⟨rfl, rfl⟩ | ⟨rfl, rfl⟩ | ⟨rfl, rfl⟩ | ⟨rfl, rfl⟩
 all_goals
  go_enter Tryz.func80, Tryz.ntmps80
  go_wp2; go_ret2; first | exact ⟨rfl, (Ext.refl w).alloc _⟩ | exact ⟨by simp [eq_of_get hx], (Ext.refl w).alloc _⟩
theorem value_str (m : Msg) (hm : WT m) (k : Nat) (n : Int) (hk : (k, n) ∈ firstS) (w : World) :
 Calls Tryz.prog 80 #[.agg (msgV m), .int .i64 n] w fun e w' => e = .returned (.tuple #[.int .i64 0, .string ⟨(gs m k).toArray⟩]) ∧ Ext w w' := by
 have hs := msgV_size hm; have hx := cellS hm (firstS_tys (k, n) hk); have hcell : (w.alloc (.cells (msgV m) 23)).cell? ⟨w.heap.size, k, none⟩ = some (.string ⟨(gs m k).toArray⟩) := by rw [cell_of_row _ _ _ _ _ (0, 0) (heap_alloc_new _ _), hx]
 have hlt := lt_of_cell hcell; have HX := Lib.hid ((Ext.refl w).alloc (.cells (msgV m) 23)); clear hx; simp only [firstS, List.mem_cons, Prod.mk.injEq, List.mem_nil_iff, or_false] at hk; rcases hk with ⟨rfl, rfl⟩ | ⟨rfl, rfl⟩ | ⟨rfl, rfl⟩ | ⟨rfl, rfl⟩ | ⟨rfl, rfl⟩ | ⟨rfl, rfl⟩ | ⟨rfl, rfl⟩ | ⟨rfl, rfl⟩
 all_goals
  go_enter Tryz.func80, Tryz.ntmps80
  go_wp2; go_quiet (fail); go_wp2
  go_ret2; exact ⟨rfl, HX.out.trans (Joins.below_draws _ _ _)⟩
theorem value_bool (m : Msg) (hm : WT m) (k : Nat) (n : Int) (hk : (k, n) ∈ firstB) (w : World) :
 Calls Tryz.prog 80 #[.agg (msgV m), .int .i64 n] w fun e w' => e = .returned (.tuple #[.int .i64 (if gb m k then 1 else 0), .string ⟨#[]⟩]) ∧ Ext w w' := by
 have hs := msgV_size hm; have hx := cellB hm (firstB_tys (k, n) hk); have hcell : (w.alloc (.cells (msgV m) 23)).cell? ⟨w.heap.size, k, none⟩ = some (.bool (gb m k)) := by rw [cell_of_row _ _ _ _ _ (0, 0) (heap_alloc_new _ _), hx]
 have HX := Lib.hid ((Ext.refl w).alloc (.cells (msgV m) 23)); clear hx; obtain ⟨b, hb⟩ : ∃ b, gb m k = b := ⟨_, rfl⟩
 rw [hb] at hcell ⊢; clear hb; simp only [firstB, List.mem_cons, Prod.mk.injEq, List.mem_nil_iff, or_false] at hk; rcases hk with ⟨rfl, rfl⟩ | ⟨rfl, rfl⟩ | ⟨rfl, rfl⟩
 all_goals cases b
 all_goals
  go_enter Tryz.func80, Tryz.ntmps80
  go_wp2_with fail; refine (truth_calls _ _).mono ?_; rintro e w' ⟨rfl, rfl⟩; simp only [if_true, if_false, Bool.false_eq_true]; go_wp2; go_ret2; exact ⟨rfl, HX.out⟩
theorem value_order (m : Msg) (hm : WT m) (k : Nat) (n : Int) (hk : (k, n) ∈ orderI) (w : World) :
 Calls Tryz.prog 80 #[.agg (msgV m), .int .i64 n] w fun e w' => e = .returned (.tuple #[.int .i64 (gi m k), .string ⟨#[]⟩]) ∧ Ext w w' := by
 have hs := msgV_size hm; have HO := Lib.hid (fun w => orderR_calls m hm k n hk w); have hne : ∀ x ∈ [(35 : Int), 49, 56, 34, 43, 52, 122, 108, 141, 112, 7, 16, 36, 123, 45, 372, 371, 373, 58, 11, 41, 1, 55], (n == x) = false := by
  have : ∀ p ∈ orderI, ∀ x ∈ [(35 : Int), 49, 56, 34, 43, 52, 122, 108, 141, 112, 7, 16, 36, 123, 45, 372, 371, 373, 58, 11, 41, 1, 55], (p.2 == x) = false := by decide
  exact this (k, n) hk
 simp only [List.forall_mem_cons, List.not_mem_nil, false_implies, implies_true, and_true] at hne; obtain ⟨e1, e2, e3, e4, e5, e6, e7, e8, e9, e10, e11, e12, e13, e14, e15, e16, e17, e18, e19, e20, e21, e22, e23⟩ := hne; clear hk; go_enter Tryz.func80, Tryz.ntmps80
 have hrow : rowOf (w.alloc (.cells (msgV m) 23)) w.heap.size = msgV m := rowOf_new _ _ _ _; have HX := Lib.hid ((Ext.refl w).alloc (.cells (msgV m) 23)); go_wp2_with (first | (go_at_call 201; refine (HO.out _).mono ?_; rintro e w' ⟨rfl, hE⟩; have HE := Lib.hid hE; clear hE)); go_ret2; exact ⟨rfl, HX.out.trans HE.out⟩
theorem value_place : ∀ k, k < 42 → (k, numbered.getD k 0) ∈ firstI ∨ (k, numbered.getD k 0) ∈ firstB ∨ (k, numbered.getD k 0) ∈ firstS ∨ (k, numbered.getD k 0) ∈ orderI := by decide
theorem rValue_calls (m : Msg) (hm : WT m) (k : Nat) (hk : k < 42) (w : World) :
 Calls Tryz.prog 80 #[.agg (msgV m), .int .i64 (numbered.getD k 0)] w fun e w' => e = .returned (.tuple #[.int .i64 (valN m k), .string ⟨(gs m k).toArray⟩]) ∧ Ext w w' := by
 rcases value_place k hk with h | h | h | h
 · have ht := order_tys _ (List.mem_append_right _ h); rw [valN_int hm ht, gs_int hm ht]; exact value_int m hm k _ h w
 · have ht := firstB_tys _ h; rw [valN_bool hm ht, gs_bool hm ht]; exact value_bool m hm k _ h w
 · have ht := firstS_tys _ h; rw [valN_str hm ht]; exact value_str m hm k _ h w
 · have ht := order_tys _ (List.mem_append_left _ h); rw [valN_int hm ht, gs_int hm ht]; exact value_order m hm k _ h w
theorem nb (b : Bool) : b = true ∨ b = false := by cases b <;> simp
theorem nz (x : Int) : (x != 0) = true ∨ (x != 0) = false := nb _
theorem boxI {m : Msg} (w : World) (hm : WT m) {k : Nat} (hk : tys[k]? = some .I) : (w.alloc (.cells (msgV m) 23)).cell? ⟨w.heap.size, k, none⟩ = some (.int .i64 (gi m k)) := by
 rw [cell_of_row _ _ _ _ _ (0, 0) (heap_alloc_new _ _), cellI hm hk]
theorem boxB {m : Msg} (w : World) (hm : WT m) {k : Nat} (hk : tys[k]? = some .B) : (w.alloc (.cells (msgV m) 23)).cell? ⟨w.heap.size, k, none⟩ = some (.bool (gb m k)) := by
 rw [cell_of_row _ _ _ _ _ (0, 0) (heap_alloc_new _ _), cellB hm hk]
end
section
open Go Go.RowKit
set_option maxHeartbeats 16000000
attribute [local go_sem] ba_get
def fitsRec : List (Bool × Int) → Int
 | [] => 0
 | (c, n) :: l => if c then n else fitsRec l
theorem fitsNum_rec (m : Msg) : fitsNum m = fitsRec (fitsList m) := by
 unfold fitsNum; generalize fitsList m = l
 induction l with
 | nil => rfl
 | cons x l ih =>
  obtain ⟨c, n⟩ := x; cases c
  · exact ih
  · rfl
theorem rFits_calls (m : Msg) (hm : WT m) (hb : (0 ≤ gi m 38 ∧ gi m 38 ≤ 1000000) ∧ (0 ≤ gi m 39 ∧ gi m 39 ≤ 1000000)) (w : World) :
 Calls Tryz.prog 83 #[.agg (msgV m)] w fun e w' => e = .returned (.int .i64 (fitsNum m)) ∧ Ext w w' := by
 have hs := msgV_size hm; have HX := Lib.hid ((Ext.refl w).alloc (.cells (msgV m) 23)); have x0 := boxI w hm (k := 0) rfl; have x4 := boxB w hm (k := 4) rfl; have x6 := boxI w hm (k := 6) rfl; have x10 := boxI w hm (k := 10) rfl; have x11 := boxI w hm (k := 11) rfl; have x24 := boxI w hm (k := 24) rfl; have x25 := boxI w hm (k := 25) rfl; have x26 := boxI w hm (k := 26) rfl; have x27 := boxI w hm (k := 27) rfl; have x28 := boxI w hm (k := 28) rfl; have x29 := boxI w hm (k := 29) rfl; have x30 := boxI w hm (k := 30) rfl; have x31 := boxI w hm (k := 31) rfl; have x34 := boxI w hm (k := 34) rfl; have x36 := boxI w hm (k := 36) rfl; have x37 := boxI w hm (k := 37) rfl; have x38 := boxI w hm (k := 38) rfl; have x39 := boxI w hm (k := 39) rfl; obtain ⟨R, hR⟩ : ∃ R, fitsNum m = R := ⟨_, rfl⟩
 rw [hR]; rw [fitsNum_rec] at hR; simp only [fitsList, fitsRec] at hR; generalize gi m 0 = K at *; generalize gb m 4 = D at *; generalize gi m 6 = O at *; generalize gi m 10 = B at *; generalize gi m 11 = E at *; generalize gi m 24 = T at *; generalize gi m 25 = L at *; generalize gi m 26 = P at *; generalize gi m 27 = S at *; generalize gi m 28 = Q at *; generalize gi m 29 = H at *; generalize gi m 30 = A at *; generalize gi m 31 = U at *; generalize gi m 34 = X at *; generalize gi m 36 = LP at *; generalize gi m 37 = LQ at *; generalize gi m 38 = F at *; generalize gi m 39 = N at *; obtain ⟨⟨b1, b2⟩, b3, b4⟩ := hb; have HR := Lib.hid hR; clear hR; go_enter Tryz.func83, Tryz.ntmps83
 go_wp2
 all_goals
  go_ret; refine ⟨?_, HX.out⟩; rw [← HR.out]
  first
   | (simp [*]; done)
   | (simp_all; done)
   | (rcases nb (L == 5) with l1 | l1 <;> rcases nz U with u1 | u1 <;> simp_all <;> (rw [if_neg (by omega), if_neg (by omega)]) <;> (rw [show (L == 5) = false by simpa using l1, show (U != 0) = true by simpa using u1]; rfl))
end
end Go.Proofs.YtdmjinlgdkgoiaaGreatDoor
