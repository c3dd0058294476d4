/- Of the layer fix: LawBase. -/
import Derived.Test.YtdmjinlgdkgoiaaGreatDoorFbAn
import Derived.Test.YtdmjinlgdkgoiaaGreatDoorFbAv
set_option linter.unusedVariables false
set_option linter.unusedSimpArgs false
namespace Go.Proofs.YtdmjinlgdkgoiaaGreatDoor
section
open Go Go.RowKit
set_option maxHeartbeats 1600000
set_option maxRecDepth 100000
theorem why_encode {m : Msg} (hm : WT m) (hv : (valid m).1 = 0) : why (frameOf (fieldsOf m)) = (0, 0, m) := by
  have h := (decode_encode hm hv).2; rw [(encode_good hm hv).1] at h; exact h
theorem encode_refused {m : Msg} (hv : (valid m).1 ≠ 0) : encode m = ([], (valid m).1) := by
  unfold encode; rw [if_pos (by simpa using hv)]
theorem fieldsOf_ok {m : Msg} (hm : WT m) (hv : (valid m).1 = 0) : ∀ f ∈ fieldsOf m, FldOk f := by
  have hgood := good_of hm hv; intro f hf; obtain ⟨s, hs2, rfl, hne⟩ := mem_fieldsOf.1 hf; obtain ⟨t1, t2, _⟩ := tag_good (slot_tag_good hgood hs2); have := ((slot_says hgood hs2).1 hne).len; have := most_bound s; exact ⟨⟨by show -9223372036854775808 ≤ s.tag; omega, by show s.tag ≤ 9223372036854775807; omega⟩, by show (written s m).length ≤ 1099511627776; omega⟩
theorem filter_le_filterMap {α β : Type} {p : α → Bool} {f : α → Option β} : ∀ {l : List α}, (∀ x ∈ l, p x = true → (f x).isSome = true) → (l.filter p).length ≤ (l.filterMap f).length
  | [], _ => by simp
  | x :: l, h => by
    have ih := filter_le_filterMap (l := l) (fun y hy => h y (by simp [hy])); have hx := h x (by simp)
    cases hp : p x with
    | false =>
      rw [List.filter_cons_of_neg (by simp [hp])]
      cases hf : f x with
      | none => rw [List.filterMap_cons_none hf]; exact ih
      | some y => rw [List.filterMap_cons_some hf, List.length_cons]; omega
    | true =>
      rw [List.filter_cons_of_pos hp, List.length_cons]; obtain ⟨y, hf⟩ := Option.isSome_iff_exists.1 (hx hp); rw [List.filterMap_cons_some hf, List.length_cons]; omega
theorem musts (k : Nat) (h : k < 17) : 3 ≤ ((slotsOf ((k : Int) + 1)).filter (·.must)).length := by
  have : ∀ k : Nat, k < 17 → 3 ≤ ((slotsOf ((k : Int) + 1)).filter (·.must)).length := by decide +kernel
  exact this k h
theorem fieldsOf_three {m : Msg} (hm : WT m) (hv : (valid m).1 = 0) : 3 ≤ (fieldsOf m).length := by
  have h := good_of hm hv; have h1 : ((slotsOf (gi m 0)).filter (·.must)).length ≤ (fieldsOf m).length := by
    unfold fieldsOf; refine filter_le_filterMap fun s hs hmu => ?_
    obtain ⟨a, b, c⟩ := slot_says h hs; have := b hmu; unfold fieldAt; rw [if_neg (by simpa using this)]; rfl
  have h2 : 1 ≤ gi m 0 ∧ gi m 0 ≤ 17 := by have := h.kind; simpa [isKind] using this
  have h3 := musts (gi m 0 - 1).toNat (by omega); have h4 : (((gi m 0 - 1).toNat : Nat) : Int) + 1 = gi m 0 := by omega
  rw [h4] at h3; omega
theorem decode_len {s : List UInt8} {m : Msg} (h : decode s = .inl m) : s.length ≤ 1024 := by
  unfold decode at h
  split at h
  · cases h
  · rename_i l hl
    exact (split_len hl).1
theorem OwnF.at {w : World} {base g : Nat} {l : List Fld} (h : ∀ j u, (fldCells l)[j]? = some u → w.cell? ⟨g, j, none⟩ = some u) : FieldsAt w g l := fun k hk => ⟨h _ _ (fldCells_at l k hk).1, h _ _ (fldCells_at l k hk).2⟩
theorem wrap_same {n : Int} (h : -9223372036854775808 ≤ n ∧ n ≤ 9223372036854775807) : wrap64 n = n := by
  unfold wrap64; omega
end
end Go.Proofs.YtdmjinlgdkgoiaaGreatDoor
