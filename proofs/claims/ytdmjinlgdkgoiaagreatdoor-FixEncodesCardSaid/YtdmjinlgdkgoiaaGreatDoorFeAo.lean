/- Of the layer fix: ReadBack, ReadBack2, ReadBack3, ReadBack4, TakesPure, KnownPure, RefPure. -/
import Derived.Test.YtdmjinlgdkgoiaaGreatDoorFeAb
set_option linter.unusedVariables false
set_option linter.unusedSimpArgs false
set_option maxRecDepth 100000
namespace Go.Proofs.YtdmjinlgdkgoiaaGreatDoor
section
open Go
def kindsL : List Int := (List.range 17).map fun (k : Nat) => (k : Int) + 1
theorem kind_mem {k : Int} (h : isKind k = true) : k ∈ kindsL := by
 unfold isKind at h; simp only [Bool.and_eq_true, decide_eq_true_eq] at h; unfold kindsL; rw [List.mem_map]; exact ⟨(k - 1).toNat, by simp; omega, by omega⟩
def slotOk (k : Int) (s : Slot) : Bool :=
 !tagBad s.tag &&
 (if s.num == 0 then (s.tag == 98 && s.must) || (s.tag == 18 && !s.must) || (s.tag == 530 && s.must)
  else s.tag != 98 && s.tag != 18 && s.tag != 530 && decide (cellOf s.num < 42) &&
   (if cellOf s.num == 0 then s.num == 35 && s.tag == 35 && s.must
    else match rows[cellOf s.num - 1]? with
     | some r => r.num == s.num && (s.must == inSet r.must k) && (inSet r.must k || inSet r.may k)
     | none => false))
theorem slots_ok : ∀ k ∈ kindsL, (slotsOf k).all (slotOk k) = true := by decide +kernel
theorem slots_tags : ∀ k ∈ kindsL, ((slotsOf k).map (·.tag)).Nodup := by decide +kernel
theorem slots_head : ∀ k ∈ kindsL, (slotsOf k).head? = some ⟨35, 35, true⟩ := by decide +kernel
theorem slots_row : ∀ k ∈ kindsL, (rows.zipIdx.all fun x => !(inSet x.1.must k || inSet x.1.may k) || (slotsOf k).any fun s => s.num == x.1.num && (s.num != 0) && cellOf s.num == x.2 + 1) = true := by decide +kernel
def slotMost (s : Slot) : Nat := if s.num == 0 then 1 else (formAt s.num).most
theorem slots_most : ∀ k ∈ kindsL, ((slotsOf k).map fun s => slotMost s + 6).sum ≤ 900 := by decide +kernel
theorem type_back : ∀ k ∈ kindsL, (formAt 35).read ((formAt 35).printN k) = some (.I k) ∧ valued ((formAt 35).printN k) = true ∧ ((formAt 35).printN k).length ≤ 2 := by decide +kernel
theorem rows_zero : rows.all (fun r => !r.zero || (r.what == .num && decide (r.lo ≤ 0) && decide (0 ≤ r.hi))) = true := by decide +kernel
theorem coded_top : (List.zipWith (fun (f : Form) (r : Row) => match f with | .coded first words => decide (r.hi < first + words.length) || r.num == 59 | _ => true) (forms.drop 1) rows).all id = true := by decide +kernel
theorem life_row : rows[24]? = some ⟨59, .num, 1, 7, false, bits [8], bits [13]⟩ := by decide
theorem nums_cell : rows.zipIdx.all (fun x => cellOf x.1.num == x.2 + 1) = true := by decide +kernel
theorem cellOf_row {k : Nat} {r : Row} (h : rows[k]? = some r) : cellOf r.num = k + 1 := by
 have := List.all_eq_true.1 nums_cell (r, k) (by rw [List.mem_zipIdx_iff_getElem?]; exact h); simpa using this
theorem rowFault_code {m : Msg} {k : Nat} {r : Row} {e : Int × Int} (h : rowFault m k r = some e) : e.1 ≠ 0 := by
 unfold rowFault at h; simp only at h; split at h
 · rw [← Option.some.inj h]; show (32 : Int) ≠ 0; decide
 · split at h
   · rw [← Option.some.inj h]; show (31 : Int) ≠ 0; decide
   · cases h
theorem rowsFault_code {m : Msg} : ∀ {k : Nat} {l : List Row} {e : Int × Int}, rowsFault m k l = some e → e.1 ≠ 0
 | _, [], _, h => by cases h
 | k, r :: l, e, h => by
  unfold rowsFault at h; cases h0 : rowFault m k r with
  | some e0 =>
   simp only [h0] at h; rw [← Option.some.inj h]; exact rowFault_code h0
  | none => simp only [h0] at h; exact rowsFault_code h
theorem rowsFault_each {m : Msg} : ∀ {k : Nat} {l : List Row}, rowsFault m k l = none → ∀ (i : Nat) (r : Row), l[i]? = some r → rowFault m (k + i) r = none
 | _, [], _, i, r, h => by simp at h
 | k, r0 :: l, h, i, r, hr => by
  unfold rowsFault at h; cases h0 : rowFault m k r0 with
  | some e => simp [h0] at h
  | none =>
   simp only [h0] at h; cases i with
   | zero => simp at hr; subst hr; exact h0
   | succ i =>
    simp at hr; have := rowsFault_each h i r hr
    rwa [show k + 1 + i = k + (i + 1) from by omega] at this
structure Good (m : Msg) : Prop where
 wt : WT m
 kind : isKind (gi m 0) = true
 row : ∀ (k : Nat) (r : Row), rows[k]? = some r → rowFault m (k + 1) r = none
theorem good_of {m : Msg} (hm : WT m) (h : (valid m).1 = 0) : Good m := by
 unfold valid at h; split at h
 · cases h
 · rename_i hk
   split at h
   · rename_i e he
     exact absurd h (rowsFault_code he)
   · rename_i he
     exact ⟨hm, by simpa using hk, fun k r hr => by
      have := rowsFault_each he k r hr
      rwa [show 1 + k = k + 1 from by omega] at this⟩
theorem Good.fine {m : Msg} (h : Good m) {k : Nat} {r : Row} (hr : rows[k]? = some r) (hx : there m (k + 1) = true ∨ inSet r.must (gi m 0) = true) : fine m (k + 1) r = true ∧ (r.what.ty = .S → there m (k + 1) = true) := by
 have h0 := h.row k r hr; unfold rowFault at h0; simp only at h0; split at h0
 · cases h0
 · split at h0
   · cases h0
   · rename_i h1 h2
     by_cases ht : there m (k + 1) = true
     · simp only [ht, Bool.true_and, Bool.not_true, Bool.false_and, Bool.or_false, Bool.not_eq_true', Bool.not_eq_false] at h2; exact ⟨h2, fun _ => ht⟩
     · have hmust : inSet r.must (gi m 0) = true := hx.resolve_left ht; have htf : there m (k + 1) = false := by simpa using ht
       simp only [htf, hmust, Bool.false_and, Bool.not_false, Bool.true_and, Bool.false_or, Bool.not_eq_true', Bool.not_eq_false] at h2; have hz := List.all_eq_true.1 rows_zero r (List.mem_of_getElem? hr); simp only [h2, Bool.not_true, Bool.false_or, Bool.and_eq_true, beq_iff_eq, decide_eq_true_eq] at hz; obtain ⟨⟨hz1, hz2⟩, hz3⟩ := hz; have hty : tys[k + 1]? = some .I := by
        unfold tys; rw [List.getElem?_cons_succ, List.getElem?_map, hr]; show some r.what.ty = _
        rw [hz1]; rfl
       have hg : gi m (k + 1) = 0 := by
        unfold there at htf; rw [h.wt.int hty] at htf; simpa using htf
       refine ⟨?_, fun hs => ?_⟩
       · unfold Go.Proofs.YtdmjinlgdkgoiaaGreatDoor.fine; rw [hz1, hg]; simp only [Bool.and_eq_true, decide_eq_true_eq]; exact ⟨hz2, hz3⟩
       · rw [hz1] at hs; cases hs
theorem Good.absent {m : Msg} (h : Good m) {k : Nat} {r : Row} (hr : rows[k]? = some r) (h1 : inSet r.must (gi m 0) = false) (h2 : inSet r.may (gi m 0) = false) : there m (k + 1) = false := by
 have h0 := h.row k r hr; unfold rowFault at h0; simp only [h1, h2, Bool.not_false, Bool.and_true] at h0; split at h0
 · cases h0
 · rename_i h3; simpa using h3
theorem cell_zero {m : Msg} (hm : WT m) {k : Nat} (hk : k < 42) (h : there m k = false) : m[k]? = noMsg[k]? := by
 have hl : k < tys.length := by rw [show tys.length = 42 from by decide]; exact hk
 have hn : noMsg[k]? = some (match tys[k] with | .I => .I 0 | .S => .S [] | .B => .B false) := by
  unfold noMsg; rw [List.getElem?_map, List.getElem?_eq_getElem hl]; rfl
 rw [hn]; have ht : tys[k]? = some tys[k] := List.getElem?_eq_getElem hl; unfold there at h; cases hc : tys[k] with
 | I =>
  rw [hc] at ht; rw [hm.int ht] at h ⊢; simp at h; simp [h]
 | S =>
  rw [hc] at ht; rw [hm.str ht] at h ⊢; simp at h; simp [h]
 | B =>
  rw [hc] at ht; rw [hm.bool ht] at h ⊢; simp at h; simp [h]
structure IsSlot (m : Msg) (s : Slot) : Prop where
 mem : s ∈ slotsOf (gi m 0)
theorem slot_ok {m : Msg} (h : Good m) {s : Slot} (hs : s ∈ slotsOf (gi m 0)) : slotOk (gi m 0) s = true :=
 List.all_eq_true.1 (slots_ok _ (kind_mem h.kind)) s hs
def target (m : Msg) : Msg := if gi m 25 = 7 then m.set 25 (.I 1) else m
theorem target_len {m : Msg} (hm : WT m) : (target m).length = 42 := by
 unfold target; split
 · rw [List.length_set]; exact hm.length
 · exact hm.length
theorem target_at {m : Msg} (hm : WT m) {k : Nat} (h : k ≠ 25 ∨ gi m 25 ≠ 7) : (target m)[k]? = m[k]? := by
 unfold target; split
 · rename_i h7
   rw [List.getElem?_set_ne (by omega)]
 · rfl
theorem written_num {m : Msg} {s : Slot} (h1 : s.tag ≠ 98) (h2 : s.tag ≠ 18) (h3 : s.tag ≠ 530) (h4 : s.num ≠ 59 ∨ gi m 25 ≠ 7) :
 written s m = if !s.must && !there m (cellOf s.num) then [] else (formAt s.num).print (m.getD (cellOf s.num) (.B false)) := by
 unfold written; rw [if_neg (by simpa using h1), if_neg (by simpa using h2), if_neg (by simpa using h3), if_neg (by simp; omega)]; rfl
structure Says (m : Msg) (s : Slot) : Prop where
 value : valued (written s m) = true
 len : (written s m).length ≤ slotMost s
 fits : ∀ M : Msg, fitsIn s M (written s m) = some (if s.num = 0 then M else M.set (cellOf s.num) ((target m).getD (cellOf s.num) (.B false)))
 may : s.num ≠ 0 → ¬ (s.num = 59 ∧ gi m 25 = 7) → (formAt s.num).may (m.getD (cellOf s.num) (.B false)) = true
theorem scopeOf_says (m : Msg) : scopeOf m = [49] ∨ scopeOf m = [55] := by unfold scopeOf; split <;> simp
theorem slot_says {m : Msg} (h : Good m) {s : Slot} (hs : s ∈ slotsOf (gi m 0)) : (written s m ≠ [] → Says m s) ∧ (s.must = true → written s m ≠ []) ∧ (s.num ≠ 0 → written s m = [] → there m (cellOf s.num) = false) := by
 have hok := slot_ok h hs; unfold slotOk at hok; simp only [Bool.and_eq_true] at hok; obtain ⟨_, hok⟩ := hok; by_cases hn : s.num = 0
 · rw [if_pos (by simpa using hn)] at hok; have hmost : slotMost s = 1 := by unfold slotMost; rw [hn]; rfl
   simp only [Bool.or_eq_true, Bool.and_eq_true, beq_iff_eq, Bool.not_eq_true'] at hok; rcases hok with (⟨ht, hmu⟩ | ⟨ht, hmu⟩) | ⟨ht, hmu⟩
   · have hw : written s m = [48] := by unfold written; rw [ht]; rfl
     rw [hw]; refine ⟨fun _ => ⟨by rw [hw]; decide, by rw [hw, hmost]; decide, fun M => ?_, fun h0 => absurd hn h0⟩, fun _ => by simp, fun h0 => absurd hn h0⟩; rw [hw, if_pos hn]; unfold fitsIn; rw [ht]; rfl
   · refine ⟨fun hne => ?_, fun hm2 => (by rw [hmu] at hm2; cases hm2), fun h0 => absurd hn h0⟩; have hw : written s m = if gi m 25 == 7 then [54] else [] := by unfold written; rw [ht]; rfl
     by_cases h7 : (gi m 25 == 7) = true
     · rw [if_pos h7] at hw; refine ⟨by rw [hw]; decide, by rw [hw, hmost]; decide, fun M => ?_, fun h0 => absurd hn h0⟩; rw [hw, if_pos hn]; unfold fitsIn; rw [ht]; rfl
     · rw [if_neg h7] at hw; exact absurd hw hne
   · have hw : written s m = scopeOf m := by unfold written; rw [ht]; rfl
     rw [hw]; rcases scopeOf_says m with e | e
     · refine ⟨fun _ => ⟨by rw [hw, e]; decide, by rw [hw, e, hmost]; decide, fun M => ?_, fun h0 => absurd hn h0⟩, fun _ => by rw [e]; simp, fun h0 => absurd hn h0⟩; rw [hw, e, if_pos hn]; unfold fitsIn; rw [ht]; rfl
     · refine ⟨fun _ => ⟨by rw [hw, e]; decide, by rw [hw, e, hmost]; decide, fun M => ?_, fun h0 => absurd hn h0⟩, fun _ => by rw [e]; simp, fun h0 => absurd hn h0⟩; rw [hw, e, if_pos hn]; unfold fitsIn; rw [ht]; rfl
 · rw [if_neg (by simpa using hn)] at hok; simp only [Bool.and_eq_true, bne_iff_ne, decide_eq_true_eq] at hok; obtain ⟨⟨⟨⟨t1, t2⟩, t3⟩, hc⟩, hok⟩ := hok; have hmost : slotMost s = (formAt s.num).most := by unfold slotMost; rw [if_neg (by simpa using hn)]
   have hfit : ∀ M v, fitsIn s M v = ((formAt s.num).read v).map fun c => M.set (cellOf s.num) c := by
    intro M v; unfold fitsIn; rw [if_neg (by simpa using t1), if_neg (by simpa using t2), if_neg (by simpa using t3)]
   by_cases hc0 : cellOf s.num = 0
   · rw [if_pos (by simpa using hc0)] at hok; simp only [Bool.and_eq_true, beq_iff_eq] at hok; obtain ⟨⟨e1, e2⟩, e3⟩ := hok; obtain ⟨b1, b2, b3⟩ := type_back _ (kind_mem h.kind); have hcell : m.getD 0 (.B false) = .I (gi m 0) := by rw [List.getD_eq_getElem?_getD, h.wt.int (k := 0) rfl]; rfl
     have hw : written s m = (formAt 35).printN (gi m 0) := by
      rw [written_num t1 t2 t3 (Or.inl (by rw [e1]; decide)), if_neg (by rw [e3]; simp), hc0, hcell, e1]; rfl
     rw [hw]; have hne : (formAt 35).printN (gi m 0) ≠ [] := by
      intro e; rw [e] at b2; cases b2
     refine ⟨fun _ => ⟨by rw [hw]; exact b2, by rw [hw, hmost, e1]; exact b3, fun M => ?_, fun _ _ => ?_⟩, fun _ => hne, fun _ h0 => absurd h0 hne⟩
     · rw [hw, hfit, e1, b1, if_neg (by decide)]; have hct : (target m).getD (cellOf 35) (.B false) = .I (gi m 0) := by
        rw [List.getD_eq_getElem?_getD, show cellOf 35 = 0 from by decide, target_at h.wt (Or.inl (by decide)), h.wt.int (k := 0) rfl]; rfl
       rw [hct]; rfl
     · rw [hc0, hcell, e1]; have hk := h.kind; unfold isKind at hk; simp only [Bool.and_eq_true, decide_eq_true_eq] at hk; show (decide ((1 : Int) ≤ gi m 0) && decide (gi m 0 < 1 + 17)) = true
       simp only [Bool.and_eq_true, decide_eq_true_eq]; omega
   · rw [if_neg (by simpa using hc0)] at hok; obtain ⟨k, hk⟩ : ∃ k, cellOf s.num = k + 1 := ⟨cellOf s.num - 1, by omega⟩
     rw [hk, Nat.add_sub_cancel] at hok; cases hr : rows[k]? with
     | none => rw [hr] at hok; cases hok
     | some r =>
      rw [hr] at hok; simp only [Bool.and_eq_true, beq_iff_eq, Bool.or_eq_true] at hok; obtain ⟨⟨e1, e2⟩, e3⟩ := hok; obtain ⟨f, hf, hag⟩ := form_agrees hr; have hfa : formAt s.num = f := by
       unfold formAt; rw [hk, List.getD_eq_getElem?_getD, hf]; rfl
      by_cases hlife : s.num = 59 ∧ gi m 25 = 7
      · obtain ⟨l1, l2⟩ := hlife; have hw : written s m = [48] := by
         unfold written; rw [if_neg (by simpa using t1), if_neg (by simpa using t2), if_neg (by simpa using t3), if_pos (by simp [l1, l2])]
        have hk25 : cellOf s.num = 25 := by rw [l1]; decide
        have hread : (formAt s.num).read [48] = some (.I 1) := by rw [l1]; decide
        rw [hw]; refine ⟨fun _ => ⟨by rw [hw]; decide, by rw [hw, hmost, l1]; decide, fun M => ?_, fun _ hno => absurd ⟨l1, l2⟩ hno⟩, fun _ => by simp, fun _ h0 => by cases h0⟩; rw [hw, hfit, hread, if_neg hn]; have hct : (target m).getD (cellOf s.num) (.B false) = .I 1 := by
         rw [List.getD_eq_getElem?_getD, hk25]; unfold target; rw [if_pos l2, List.getElem?_set_self (by rw [h.wt.length]; decide)]; rfl
        rw [hct]; rfl
      · have hor : s.num ≠ 59 ∨ gi m 25 ≠ 7 := by omega
        have hw := written_num t1 t2 t3 hor; have hct : (target m).getD (cellOf s.num) (.B false) = m.getD (cellOf s.num) (.B false) := by
         rw [List.getD_eq_getElem?_getD, List.getD_eq_getElem?_getD, target_at h.wt]; rcases hor with h59 | h7
         · left
           intro e; refine h59 ?_; rw [e] at hk; have hk24 : k = 24 := by omega
           rw [hk24, life_row] at hr; rw [← e1, ← Option.some.inj hr]
         · exact Or.inr h7
        have hback : s.must = true ∨ there m (cellOf s.num) = true → _ := fun hx => by
         have hfi := h.fine hr (hx.symm.imp (fun hx => by rw [← hk]; exact hx) (fun hx => by rw [← e2]; exact hx)); exact cell_back h.wt hr hf hfi.1 hfi.2 (fun first words he => by
          subst he; have hz := List.all_eq_true.1 coded_top _ (List.mem_of_getElem? (i := k) (by
           rw [List.getElem?_zipWith, hr, List.getElem?_drop, Nat.add_comm 1 k, hf]))
          simp only [id, Bool.or_eq_true, decide_eq_true_eq, beq_iff_eq] at hz; have hnum : r.what = .num := by
           unfold Form.agrees at hag
           revert hag
           cases r.what <;> simp
          have hfi2 := hfi.1; unfold Go.Proofs.YtdmjinlgdkgoiaaGreatDoor.fine at hfi2; rw [hnum] at hfi2; simp only [Bool.and_eq_true, decide_eq_true_eq] at hfi2; rcases hz with hz | hz
          · omega
          · have hk24 : k = 24 := by
             have := cellOf_row hr; rw [hz, show cellOf 59 = 25 from by decide] at this; omega
            subst hk24; have h7 : gi m 25 ≠ 7 := by
             rcases hor with h0 | h0
             · exact absurd (e1.symm.trans hz) h0
             · exact h0
            have hw6 : (first : Int) + words.length = 7 := by
             have : forms[25]? = some (.coded 1 [[48], [51], [52], [49], [54], [50]]) := by decide
             rw [this] at hf; have := Option.some.inj hf
             injection this with a b
             rw [← a, ← b]; decide
            rw [life_row] at hr; have := Option.some.inj hr; rw [← this] at hfi2; simp only [Nat.reduceAdd] at hfi2; show gi m 25 < _
            omega)
        by_cases hx : s.must = true ∨ there m (cellOf s.num) = true
        · obtain ⟨b1, b2, b3, b4⟩ := hback hx; rw [if_neg (by rcases hx with hx | hx <;> simp [hx]), hfa] at hw; rw [← hk] at b1 b2 b3; have hne : written s m ≠ [] := by
           intro e; rw [e] at hw; rw [← hw] at b2; cases b2
          refine ⟨fun _ => ⟨by rw [hw]; exact b2, by rw [hw, hmost, hfa]; exact b3, fun M => ?_, fun _ _ => by rw [hfa, hk]; exact b4⟩, fun _ => hne, fun _ h0 => absurd h0 hne⟩; rw [hw, hfit, hfa, b1, if_neg hn, hct]; rfl
        · have h1 : s.must = false := by simpa using fun e => hx (Or.inl e)
          have h2 : there m (cellOf s.num) = false := by simpa using fun e => hx (Or.inr e)
          rw [if_pos (by rw [h1, h2]; rfl)] at hw; exact ⟨fun h0 => absurd hw h0, fun h0 => (by rw [h1] at h0; cases h0), fun _ _ => h2⟩
end
section
open Go
theorem valueOf_none {l : List Fld} {t : Int} (h : t ∉ l.map (·.1)) : valueOf l t = none := by
 unfold valueOf; rw [List.findIdx?_eq_none_iff.2]
 · rfl
 · intro f hf; simp only [beq_eq_false_iff_ne]; intro e; exact h (List.mem_map.2 ⟨f, hf, e⟩)
theorem valueOf_first {l : List Fld} {i : Nat} (hi : i < l.length) (hno : ∀ j, (hj : j < i) → (l[j]'(by omega)).1 ≠ (l[i]).1) : valueOf l (l[i]).1 = some (i, (l[i]).2) := by
 unfold valueOf; have : l.findIdx? (fun f => f.1 == (l[i]).1) = some i := by
  rw [List.findIdx?_eq_some_iff_getElem]; refine ⟨hi, by simp, fun j hj => ?_⟩; simpa using hno j hj
 rw [this]; simp [hi]
theorem nodup_get {l : List Fld} (hn : (l.map (·.1)).Nodup) {i j : Nat} (hi : i < l.length) (hj : j < l.length) (h : (l[i]).1 = (l[j]).1) : i = j := by
 exact (List.getElem_inj (i := i) (j := j) (h₀ := by simpa using hi) (h₁ := by simpa using hj) hn).1 (by simpa using h)
theorem valueOf_at {l : List Fld} (hn : (l.map (·.1)).Nodup) {i : Nat} (hi : i < l.length) : valueOf l (l[i]).1 = some (i, (l[i]).2) :=
 valueOf_first hi fun j hj e => by have := nodup_get hn (by omega) hi e; omega
theorem valueOf_mem {l : List Fld} (hn : (l.map (·.1)).Nodup) {f : Fld} (hf : f ∈ l) : ∃ i : Nat, valueOf l f.1 = some (i, f.2) := by
 obtain ⟨i, hi, rfl⟩ := List.getElem_of_mem hf; exact ⟨i, valueOf_at hn hi⟩
theorem placeOf_none {l : List Fld} {t : Int} (h : t ∉ l.map (·.1)) : placeOf l t = -1 := by unfold placeOf; rw [valueOf_none h]
theorem placeOf_mem {l : List Fld} (hn : (l.map (·.1)).Nodup) {f : Fld} (hf : f ∈ l) : 0 ≤ placeOf l f.1 ∧ textOf l f.1 = f.2 := by
 obtain ⟨i, hi⟩ := valueOf_mem hn hf; unfold placeOf textOf; rw [hi]; exact ⟨Int.natCast_nonneg _, rfl⟩
theorem placeOf_neg {l : List Fld} {t : Int} : placeOf l t < 0 ↔ t ∉ l.map (·.1) := by
 constructor
 · intro h ht; obtain ⟨f, hf, rfl⟩ := List.mem_map.1 ht; unfold placeOf valueOf at h; have : (l.findIdx? fun g => g.1 == f.1).isSome = true := by
    rw [List.findIdx?_isSome, List.any_eq_true]; exact ⟨f, hf, by simp⟩
   obtain ⟨i, hi⟩ := Option.isSome_iff_exists.1 this; rw [hi] at h; simp at h; omega
 · intro h; rw [placeOf_none h]; decide
theorem findSlot_mem {all : List Slot} (hn : (all.map (·.tag)).Nodup) {s : Slot} (hs : s ∈ all) : findSlot all s.tag = some s := by
 unfold findSlot
 induction all with
 | nil => cases hs
 | cons x l ih =>
  rw [List.find?_cons]; rw [List.map_cons, List.nodup_cons] at hn; by_cases hx : x.tag = s.tag
  · rw [show (x.tag == s.tag) = true from by simpa using hx]; rcases List.mem_cons.1 hs with h | h
    · rw [h]
    · exact absurd (List.mem_map.2 ⟨s, h, hx.symm⟩) hn.1
  · rw [show (x.tag == s.tag) = false from by simpa using hx]; rcases List.mem_cons.1 hs with h | h
    · exact absurd (by rw [h]) hx
    · exact ih hn.2 h
structure Fields (m : Msg) (l : List Fld) : Prop where
 head : ∃ r, l = (35, (formAt 35).printN (gi m 0)) :: r
 tags : (l.map (·.1)).Nodup
 says : ∀ f ∈ l, ∃ s ∈ slotsOf (gi m 0), f = (s.tag, written s m) ∧ written s m ≠ []
def Whole (m : Msg) (l : List Fld) : Prop := ∀ s ∈ slotsOf (gi m 0), written s m ≠ [] → (s.tag, written s m) ∈ l
theorem slot_tag_inj {m : Msg} (h : Good m) {s t : Slot} (hs : s ∈ slotsOf (gi m 0)) (ht : t ∈ slotsOf (gi m 0)) (he : s.tag = t.tag) : s = t := by
 have h1 := findSlot_mem (slots_tags _ (kind_mem h.kind)) hs; have h2 := findSlot_mem (slots_tags _ (kind_mem h.kind)) ht; rw [he, h2] at h1; exact (Option.some.inj h1).symm
structure Holds (M t : Msg) (p : Slot → Prop) : Prop where
 len : M.length = 42
 got : ∀ s, p s → s.num ≠ 0 → M[cellOf s.num]? = t[cellOf s.num]?
 rest : ∀ k, k < 42 → (∀ s, p s → s.num ≠ 0 → cellOf s.num ≠ k) → M[k]? = noMsg[k]?
theorem Holds.put {M t : Msg} {p : Slot → Prop} (h : Holds M t p) (ht : t.length = 42) {s : Slot} (hc : s.num ≠ 0 → cellOf s.num < 42) :
 Holds (if s.num = 0 then M else M.set (cellOf s.num) (t.getD (cellOf s.num) (.B false))) t (fun x => x = s ∨ p x) := by
 by_cases hn : s.num = 0
 · rw [if_pos hn]; exact ⟨h.len, fun x hx h0 => by
    rcases hx with rfl | hx
    · exact absurd hn h0
    · exact h.got x hx h0, fun k hk hno => h.rest k hk fun x hx => hno x (Or.inr hx)⟩
 · rw [if_neg hn]; have hc := hc hn; have hself : (M.set (cellOf s.num) (t.getD (cellOf s.num) (.B false)))[cellOf s.num]? = t[cellOf s.num]? := by
    rw [List.getElem?_set_self (by rw [h.len]; exact hc), List.getD_eq_getElem?_getD, List.getElem?_eq_getElem (by rw [ht]; exact hc)]; rfl
   refine ⟨by rw [List.length_set]; exact h.len, fun x hx h0 => ?_, fun k hk hno => ?_⟩
   · by_cases he : cellOf x.num = cellOf s.num
     · rw [he]; exact hself
     · rcases hx with rfl | hx
       · exact absurd rfl he
       · rw [List.getElem?_set_ne (fun e => he e.symm)]; exact h.got x hx h0
   · rw [List.getElem?_set_ne (hno s (Or.inl rfl) hn)]; exact h.rest k hk fun x hx => hno x (Or.inr hx)
theorem Holds.congr {M t : Msg} {p q : Slot → Prop} (h : Holds M t p) (he : ∀ s, p s ↔ q s) : Holds M t q :=
 ⟨h.len, fun s hs => h.got s ((he s).2 hs), fun k hk hno => h.rest k hk fun s hs => hno s ((he s).1 hs)⟩
theorem slot_cell {m : Msg} (h : Good m) {s : Slot} (hs : s ∈ slotsOf (gi m 0)) (h0 : s.num ≠ 0) : cellOf s.num < 42 := by
 have hok := slot_ok h hs; unfold slotOk at hok; rw [if_neg (by simpa using h0)] at hok; simp only [Bool.and_eq_true, decide_eq_true_eq] at hok; exact hok.2.1.2
theorem readFrom_good {m : Msg} (h : Good m) {l : List Fld} : ∀ (r : List Fld) (i : Nat) (M : Msg) (p : Slot → Prop),
 (∀ f ∈ r, ∃ s ∈ slotsOf (gi m 0), f = (s.tag, written s m) ∧ written s m ≠ []) → (∀ j, (hj : j < r.length) → ¬ placeOf l (r[j]).1 < ((i + j : Nat) : Int)) → Holds M (target m) p →
 ∃ M', (∀ r2, readFrom (slotsOf (gi m 0)) l i M (r ++ r2) = readFrom (slotsOf (gi m 0)) l (i + r.length) M' r2) ∧ Holds M' (target m) (fun s => p s ∨ (s ∈ slotsOf (gi m 0) ∧ s.tag ∈ r.map (·.1)))
 | [], i, M, p, hr, hpl, hM => ⟨M, fun r2 => rfl, hM.congr fun s => by simp⟩
 | f :: r, i, M, p, hr, hpl, hM => by
  obtain ⟨s, hs, rfl, hne⟩ := hr f (by simp); have hfind := findSlot_mem (slots_tags _ (kind_mem h.kind)) hs; have hsays := (slot_says h hs).1 hne; have h0 := hpl 0 (by simp); simp only [List.getElem_cons_zero, Nat.add_zero] at h0; obtain ⟨M', h1, h2⟩ := readFrom_good h (l := l) r (i + 1) _ _ (fun g hg => hr g (by simp [hg])) (fun j hj => by
   have := hpl (j + 1) (by simp; omega); rw [show i + 1 + j = i + (j + 1) by omega]; simpa using this) (hM.put (target_len h.wt) (s := s) (slot_cell h hs))
  refine ⟨M', fun r2 => ?_, h2.congr fun x => ?_⟩
  · rw [List.cons_append]
    conv => lhs; unfold readFrom
    simp only [hfind, hsays.fits]; rw [if_neg h0, h1 r2, List.length_cons, show i + 1 + r.length = i + (r.length + 1) by omega]
  · simp only [List.map_cons, List.mem_cons]; constructor
    · rintro ((rfl | h) | ⟨h3, h4⟩)
      · exact Or.inr ⟨hs, Or.inl rfl⟩
      · exact Or.inl h
      · exact Or.inr ⟨h3, Or.inr h4⟩
    · rintro (h3 | ⟨h3, h4 | h4⟩)
      · exact Or.inl (Or.inr h3)
      · exact Or.inl (Or.inl (slot_tag_inj h h3 hs h4))
      · exact Or.inr ⟨h3, h4⟩
theorem noMsg_len : noMsg.length = 42 := by decide
theorem type_kind {m : Msg} (h : Good m) : gi (noMsg.set 0 (.I (gi m 0))) 0 = gi m 0 := by
 unfold gi; rw [List.getElem?_set_self (by rw [noMsg_len]; decide)]
theorem readAll_fields {m : Msg} (h : Good m) {l : List Fld} (hl : Fields m l) :
 ∃ M, Holds M (target m) (fun s => s ∈ slotsOf (gi m 0) ∧ s.tag ∈ l.map (·.1)) ∧
  (readAll l = match lacks (slotsOf (gi m 0)) l with | some s => (M, (50, (l.length : Int), s.tag)) | none => fitAll M l) ∧
  (∀ x ∈ l, readAll (l ++ [x]) = (M, (51, (l.length : Int), x.1))) := by
 obtain ⟨r, hlr⟩ := hl.head; obtain ⟨b1, b2, b3⟩ := type_back _ (kind_mem h.kind); have hs35 : (⟨35, 35, true⟩ : Slot) ∈ slotsOf (gi m 0) := List.mem_of_head? (slots_head _ (kind_mem h.kind)); have h0 : Holds (noMsg.set 0 (.I (gi m 0))) (target m) (fun s => s = ⟨35, 35, true⟩) := by
  have hc0 : (target m).getD 0 (.B false) = .I (gi m 0) := by
   rw [List.getD_eq_getElem?_getD, target_at h.wt (Or.inl (by decide)), h.wt.int (k := 0) rfl]; rfl
  have hb : Holds noMsg (target m) (fun _ => False) := ⟨noMsg_len, fun _ hf => hf.elim, fun _ _ _ => rfl⟩
  have := hb.put (target_len h.wt) (s := ⟨35, 35, true⟩) (fun _ => by decide); rw [if_neg (by decide), show cellOf (Slot.num ⟨35, 35, true⟩) = 0 from by decide, hc0] at this; exact this.congr fun s => by simp
 have hplace : ∀ (l2 : List Fld) (j : Nat) (hj : j < r.length), ¬ placeOf (l ++ l2) (r[j]).1 < ((1 + j : Nat) : Int) := by
  intro l2 j hj; have hj1 : j + 1 < l.length := by rw [hlr]; simpa using hj
  have hg : l[j + 1] = r[j] := by simp [hlr]
  have hg2 : (l ++ l2)[j + 1]'(by rw [List.length_append]; omega) = r[j] := by rw [List.getElem_append_left hj1, hg]
  have := valueOf_first (l := l ++ l2) (i := j + 1) (by rw [List.length_append]; omega) (fun k hk e => by
   rw [List.getElem_append_left (by omega), List.getElem_append_left hj1] at e; have := nodup_get hl.tags (by omega) hj1 e; omega)
  rw [hg2] at this; unfold placeOf; rw [this]; simp only; omega
 have hsays : ∀ f ∈ r, ∃ s ∈ slotsOf (gi m 0), f = (s.tag, written s m) ∧ written s m ≠ [] := fun f hf => hl.says f (by rw [hlr]; simp [hf])
 obtain ⟨M, h1, h2⟩ := readFrom_good h (l := l) r 1 _ _ hsays (fun j hj => by have := hplace [] j hj; rwa [List.append_nil] at this) h0; have h3 : ∀ x, readFrom (slotsOf (gi m 0)) (l ++ [x]) 1 (noMsg.set 0 (.I (gi m 0))) (r ++ [x]) = readFrom (slotsOf (gi m 0)) (l ++ [x]) (1 + r.length) M [x] := by
  intro x; obtain ⟨M', h1', _⟩ := readFrom_good h (l := l ++ [x]) r 1 _ _ hsays (fun j hj => hplace [x] j hj) h0; have same : ∀ (l1 l2 : List Fld) (r : List Fld) (i : Nat) (M : Msg), (∀ f ∈ r, ∃ s ∈ slotsOf (gi m 0), f = (s.tag, written s m) ∧ written s m ≠ []) → (∀ j, (hj : j < r.length) → ¬ placeOf l1 (r[j]).1 < ((i + j : Nat) : Int)) →
      (∀ j, (hj : j < r.length) → ¬ placeOf l2 (r[j]).1 < ((i + j : Nat) : Int)) → (readFrom (slotsOf (gi m 0)) l1 i M r).1 = (readFrom (slotsOf (gi m 0)) l2 i M r).1 := by
   intro l1 l2 r
   induction r with
   | nil => intro i M _ _ _; rfl
   | cons f r ih =>
    intro i M hr p1 p2; obtain ⟨s, hs, rfl, hne⟩ := hr f (by simp); have q1 := p1 0 (by simp); have q2 := p2 0 (by simp); simp only [List.getElem_cons_zero, Nat.add_zero] at q1 q2; unfold readFrom; simp only [findSlot_mem (slots_tags _ (kind_mem h.kind)) hs, if_neg q1, if_neg q2, ((slot_says h hs).1 hne).fits]; refine ih (i + 1) _ (fun g hg => hr g (by simp [hg])) (fun j hj => ?_) (fun j hj => ?_)
    · have := p1 (j + 1) (by simp; omega); rw [show i + 1 + j = i + (j + 1) by omega]; simpa using this
    · have := p2 (j + 1) (by simp; omega); rw [show i + 1 + j = i + (j + 1) by omega]; simpa using this
  have hMM : M = M' := by
   have e1 := h1 []; have e2 := h1' []; rw [List.append_nil] at e1 e2; have := same l (l ++ [x]) r 1 (noMsg.set 0 (.I (gi m 0))) hsays (fun j hj => by have := hplace [] j hj; rwa [List.append_nil] at this) (fun j hj => hplace [x] j hj); rw [e1, e2] at this; exact this
  rw [hMM]; exact h1' [x]
 refine ⟨M, h2.congr fun s => ?_, ?_, fun x hx => ?_⟩
 · rw [hlr]; simp only [List.map_cons, List.mem_cons]; constructor
   · rintro (rfl | ⟨a, b⟩)
     · exact ⟨hs35, Or.inl rfl⟩
     · exact ⟨a, Or.inr b⟩
   · rintro ⟨a, b | b⟩
     · exact Or.inl (slot_tag_inj h a hs35 b)
     · exact Or.inr ⟨a, b⟩
 · have e1 := h1 []; rw [List.append_nil] at e1; have hr : readAll l = (let x := readFrom (slotsOf (gi m 0)) l 1 (noMsg.set 0 (.I (gi m 0))) r
       if x.2.1 != 0 then x else match lacks (slotsOf (gi m 0)) l with | some s => (x.1, (50, (l.length : Int), s.tag)) | none => fitAll x.1 l) := by
    conv => lhs; rw [hlr]
    unfold readAll; simp only [bne_self_eq_false, Bool.false_eq_true, if_false, b1, type_kind h, ← hlr]; rfl
   rw [hr, e1]; rfl
 · have hr : readAll (l ++ [x]) = (let y := readFrom (slotsOf (gi m 0)) (l ++ [x]) 1 (noMsg.set 0 (.I (gi m 0))) (r ++ [x])
       if y.2.1 != 0 then y else match lacks (slotsOf (gi m 0)) (l ++ [x]) with | some s => (y.1, (50, ((l ++ [x]).length : Int), s.tag)) | none => fitAll y.1 (l ++ [x])) := by
    have : l ++ [x] = (35, (formAt 35).printN (gi m 0)) :: (r ++ [x]) := by rw [hlr]; rfl
    conv => lhs; rw [this]
    unfold readAll; simp only [bne_self_eq_false, Bool.false_eq_true, if_false, b1, type_kind h, ← this]; rfl
   rw [hr, h3 x]; obtain ⟨i, hi, rfl⟩ := List.getElem_of_mem hx; obtain ⟨s, hs, he, hne⟩ := hl.says _ hx; have hv := valueOf_first (l := l ++ [l[i]]) (i := i) (by rw [List.length_append]; omega) (fun k hk e => by
    rw [List.getElem_append_left (by omega), List.getElem_append_left hi] at e; have := nodup_get hl.tags (by omega) hi e; omega)
   rw [List.getElem_append_left hi] at hv; have hrl : l.length = 1 + r.length := by rw [hlr]; simp; omega
   have hp : placeOf (l ++ [l[i]]) (l[i]).1 < ((1 + r.length : Nat) : Int) := by
    unfold placeOf; rw [hv]; simp only; omega
   have hread : readFrom (slotsOf (gi m 0)) (l ++ [l[i]]) (1 + r.length) M [l[i]] = (M, (51, ((1 + r.length : Nat) : Int), (l[i]).1)) := by
    unfold readFrom; rw [show findSlot (slotsOf (gi m 0)) (l[i]).1 = some s from by rw [he]; exact findSlot_mem (slots_tags _ (kind_mem h.kind)) hs]; simp only [if_pos hp]
   rw [hread, ← hrl]; rfl
end
section
open Go
theorem post_slot : ∀ k ∈ kindsL, (inSet (bits [8]) k || inSet (bits [13]) k) = true → (⟨18, 0, false⟩ : Slot) ∈ slotsOf k := by decide +kernel
theorem life_tag : ∀ k ∈ kindsL, ((slotsOf k).all fun s => s.num != 59 || s.tag == 59) = true := by decide +kernel
theorem slot_of_row {m : Msg} (h : Good m) {j : Nat} {r : Row} (hr : rows[j]? = some r) (hi : inSet r.must (gi m 0) = true ∨ inSet r.may (gi m 0) = true) :
 ∃ s ∈ slotsOf (gi m 0), s.num = r.num ∧ s.num ≠ 0 ∧ cellOf s.num = j + 1 := by
 have := List.all_eq_true.1 (slots_row _ (kind_mem h.kind)) (r, j) (by rw [List.mem_zipIdx_iff_getElem?]; exact hr); simp only [Bool.or_eq_true, Bool.not_eq_true', List.any_eq_true, Bool.and_eq_true, beq_iff_eq, bne_iff_ne] at this; rcases this with h1 | ⟨s, hs, h1⟩
 · rw [Bool.or_eq_false_iff] at h1; rcases hi with hi | hi
   · rw [h1.1] at hi; cases hi
   · rw [h1.2] at hi; cases hi
 · exact ⟨s, hs, h1.1.1, h1.1.2, h1.2⟩
theorem holds_target {m : Msg} (h : Good m) {l : List Fld} {M : Msg} (hM : Holds M (target m) (fun s => s ∈ slotsOf (gi m 0) ∧ s.tag ∈ l.map (·.1))) {k : Nat} (hk : k < 42)
 (h35 : (35 : Int) ∈ l.map (·.1)) (hw : ∀ s ∈ slotsOf (gi m 0), s.num ≠ 0 → cellOf s.num = k → written s m ≠ [] → s.tag ∈ l.map (·.1)) : M[k]? = (target m)[k]? := by
 by_cases hex : ∃ s, (s ∈ slotsOf (gi m 0) ∧ s.tag ∈ l.map (·.1)) ∧ s.num ≠ 0 ∧ cellOf s.num = k
 · obtain ⟨s, hs, h0, rfl⟩ := hex; exact hM.got s hs h0
 · have hno : ∀ s, (s ∈ slotsOf (gi m 0) ∧ s.tag ∈ l.map (·.1)) → s.num ≠ 0 → cellOf s.num ≠ k := fun s hs h0 he => hex ⟨s, hs, h0, he⟩
   rw [hM.rest k hk hno]; cases k with
   | zero => exact absurd (show cellOf (35 : Int) = 0 from by decide) (hno ⟨35, 35, true⟩ ⟨List.mem_of_head? (slots_head _ (kind_mem h.kind)), h35⟩ (by decide))
   | succ j =>
    have hj : j < rows.length := by rw [rows_len]; omega
    have hr : rows[j]? = some rows[j] := List.getElem?_eq_getElem hj; have hth : there m (j + 1) = false := by
     by_cases hi : inSet rows[j].must (gi m 0) = true ∨ inSet rows[j].may (gi m 0) = true
     · obtain ⟨s, hs, h1, h2, h3⟩ := slot_of_row h hr hi; rw [← h3]; refine (slot_says h hs).2.2 h2 ?_; by_cases hwe : written s m = []
       · exact hwe
       · exact absurd h3 (hno s ⟨hs, hw s hs h2 h3 hwe⟩ h2)
     · exact h.absent hr (by simpa using fun e => hi (Or.inl e)) (by simpa using fun e => hi (Or.inr e))
    rw [target_at h.wt, cell_zero h.wt hk hth]; by_cases h25 : j + 1 = 25
    · right
      intro h7; rw [h25] at hth; unfold there at hth; rw [h.wt.int (k := 25) rfl, h7] at hth; cases hth
    · exact Or.inl h25
theorem written_18 {m : Msg} {s : Slot} (ht : s.tag = 18) : written s m = if gi m 25 == 7 then [54] else [] := by unfold written; rw [ht]; rfl
theorem written_530 {m : Msg} {s : Slot} (ht : s.tag = 530) : written s m = scopeOf m := by unfold written; rw [ht]; rfl
theorem life_slot {m : Msg} (h : Good m) (h7 : gi m 25 = 7) : (∃ s ∈ slotsOf (gi m 0), s.tag = 59 ∧ written s m = [48]) ∧ (⟨18, 0, false⟩ : Slot) ∈ slotsOf (gi m 0) := by
 have hin : inSet (bits [8]) (gi m 0) = true ∨ inSet (bits [13]) (gi m 0) = true := by
  by_cases hi : inSet (bits [8]) (gi m 0) = true ∨ inSet (bits [13]) (gi m 0) = true
  · exact hi
  · have := h.absent life_row (by simpa using fun e => hi (Or.inl e)) (by simpa using fun e => hi (Or.inr e)); unfold there at this; rw [h.wt.int (k := 25) rfl, h7] at this; cases this
 refine ⟨?_, post_slot _ (kind_mem h.kind) (by simpa using hin)⟩; obtain ⟨s, hs, h1, h2, h3⟩ := slot_of_row h life_row hin; have h59 : s.num = 59 := h1; have ht := List.all_eq_true.1 (life_tag _ (kind_mem h.kind)) s hs; simp only [h59, bne_self_eq_false, Bool.false_or, beq_iff_eq] at ht; refine ⟨s, hs, ht, ?_⟩; unfold written; rw [ht, h59, h7]; rfl
theorem set_self {m : Msg} {k : Nat} {c : Cell} (h : m[k]? = some c) : m.set k c = m := by
 refine List.ext_getElem? fun i => ?_
 by_cases hi : i = k
 · subst hi; rw [List.getElem?_set_self (List.getElem?_eq_some_iff.1 h).1, h]
 · rw [List.getElem?_set_ne (fun e => hi e.symm)]
theorem target_life {m : Msg} (h : Good m) (h7 : gi m 25 = 7) : (target m).set 25 (.I 7) = m := by
 unfold target; rw [if_pos h7, List.set_set]; exact set_self (by rw [h.wt.int (k := 25) rfl, h7])
theorem readAll_whole {m : Msg} (hm : WT m) (hv : (valid m).1 = 0) {l : List Fld} (hl : Fields m l) (hw : Whole m l) : readAll l = (m, (0, 0, 0)) := by
 have h := good_of hm hv; obtain ⟨M, hM, hr, _⟩ := readAll_fields h hl; have hplace : ∀ s ∈ slotsOf (gi m 0), written s m ≠ [] → 0 ≤ placeOf l s.tag ∧ textOf l s.tag = written s m := fun s hs hne => placeOf_mem hl.tags (hw s hs hne)
 have hlacks : lacks (slotsOf (gi m 0)) l = none := by
  unfold lacks; rw [List.find?_eq_none]; intro s hs; simp only [Bool.and_eq_true, decide_eq_true_eq, not_and]; intro hmust hneg; have := (hplace s hs ((slot_says h hs).2.1 hmust)).1; omega
 have h35 : (35 : Int) ∈ l.map (·.1) := by
  obtain ⟨r, e⟩ := hl.head; rw [e]; simp
 have hMt : M = target m := by
  refine List.ext_getElem? fun k => ?_
  by_cases hk : k < 42
  · exact holds_target h hM hk h35 fun s hs _ _ hne => List.mem_map.2 ⟨_, hw s hs hne, rfl⟩
  · rw [List.getElem?_eq_none (by rw [hM.len]; omega), List.getElem?_eq_none (by rw [target_len hm]; omega)]
 rw [hr, hlacks, hMt]; simp only; have h18 : 0 ≤ placeOf l 18 → gi m 25 = 7 := by
  intro h0; have : (18 : Int) ∈ l.map (·.1) := by
   refine Classical.byContradiction fun hno => ?_
   have := placeOf_neg.2 hno; omega
  obtain ⟨f, hf, he⟩ := List.mem_map.1 this; obtain ⟨s, hs, hfs, hne⟩ := hl.says f hf; have ht : s.tag = 18 := by rw [← he, hfs]
  rw [written_18 ht] at hne; by_cases h7 : (gi m 25 == 7) = true
  · simpa using h7
  · rw [if_neg h7] at hne; exact absurd rfl hne
 have hfin : lifeOf (target m) l = m ∧ ¬ (0 ≤ placeOf l 18 ∧ textOf l 59 ≠ [48]) := by
  by_cases h7 : gi m 25 = 7
  · obtain ⟨⟨s, hs, ht, hws⟩, h18s⟩ := life_slot h h7; have hp := hplace _ h18s (by rw [written_18 rfl, h7]; simp); have hq := hplace s hs (by rw [hws]; simp); rw [ht, hws] at hq; refine ⟨?_, fun hx => hx.2 hq.2⟩; unfold lifeOf; rw [if_pos hp.1]; exact target_life h h7
  · have hno : ¬ 0 ≤ placeOf l 18 := fun h0 => h7 (h18 h0)
    refine ⟨?_, fun hx => hno hx.1⟩; unfold lifeOf target; rw [if_neg hno, if_neg h7]
 unfold fitAll; rw [if_neg hfin.2]; simp only [hfin.1]; rw [if_neg, if_pos (by rw [hv]; rfl)]; rintro ⟨h0, hne⟩; have : (530 : Int) ∈ l.map (·.1) := by
  refine Classical.byContradiction fun hno => ?_
  have := placeOf_neg.2 hno; omega
 obtain ⟨f, hf, he⟩ := List.mem_map.1 this; obtain ⟨s, hs, hfs, hws⟩ := hl.says f hf; have ht : s.tag = 530 := by rw [← he, hfs]
 have := (hplace s hs hws).2; rw [ht, written_530 ht] at this; exact hne this
theorem fieldAt_some {m : Msg} {s : Slot} {f : Fld} : fieldAt m s = some f ↔ f = (s.tag, written s m) ∧ written s m ≠ [] := by
 unfold fieldAt; split
 · rename_i h
   constructor
   · intro e; cases e
   · rintro ⟨_, hne⟩; exact absurd (by simpa using h) hne
 · rename_i h
   constructor
   · intro e; exact ⟨(Option.some.inj e).symm, fun e => h (by rw [e]; rfl)⟩
   · rintro ⟨rfl, _⟩; rfl
theorem mem_fieldsOf {m : Msg} {f : Fld} : f ∈ fieldsOf m ↔ ∃ s ∈ slotsOf (gi m 0), f = (s.tag, written s m) ∧ written s m ≠ [] := by
 unfold fieldsOf; rw [List.mem_filterMap]; constructor
 · rintro ⟨s, hs, he⟩; exact ⟨s, hs, fieldAt_some.1 he⟩
 · rintro ⟨s, hs, he⟩; exact ⟨s, hs, fieldAt_some.2 he⟩
theorem filterMap_tags (m : Msg) (all : List Slot) (h : (all.map (·.tag)).Nodup) : ((all.filterMap (fieldAt m)).map (·.1)).Nodup := by
 induction all with
 | nil => simp
 | cons s l ih =>
  rw [List.map_cons, List.nodup_cons] at h; rw [List.filterMap_cons]; cases hb : fieldAt m s with
  | none => exact ih h.2
  | some b =>
   simp only; rw [(fieldAt_some.1 hb).1, List.map_cons, List.nodup_cons]; refine ⟨fun hx => h.1 ?_, ih h.2⟩; obtain ⟨f, hf, he⟩ := List.mem_map.1 hx; obtain ⟨t, ht, hft⟩ := List.mem_filterMap.1 hf; rw [(fieldAt_some.1 hft).1] at he; exact List.mem_map.2 ⟨t, ht, he⟩
theorem fieldsOf_fields {m : Msg} (h : Good m) : Fields m (fieldsOf m) ∧ Whole m (fieldsOf m) := by
 refine ⟨⟨?_, filterMap_tags m _ (slots_tags _ (kind_mem h.kind)), fun f hf => mem_fieldsOf.1 hf⟩, fun s hs hne => mem_fieldsOf.2 ⟨s, hs, rfl, hne⟩⟩; have hh := slots_head _ (kind_mem h.kind); obtain ⟨b1, b2, b3⟩ := type_back _ (kind_mem h.kind); have hws : written ⟨35, 35, true⟩ m = (formAt 35).printN (gi m 0) := by
  rw [written_num (by decide) (by decide) (by decide) (Or.inl (by decide)), if_neg (by simp)]; rw [show cellOf 35 = 0 from by decide, List.getD_eq_getElem?_getD, h.wt.int (k := 0) rfl]; rfl
 unfold fieldsOf; cases hs : slotsOf (gi m 0) with
 | nil => rw [hs] at hh; cases hh
 | cons s r =>
  rw [hs] at hh; have hs35 : s = ⟨35, 35, true⟩ := Option.some.inj hh; subst hs35; rw [List.filterMap_cons]; have hne : ((formAt 35).printN (gi m 0)).isEmpty = false := by
   cases he : (formAt 35).printN (gi m 0) with
   | nil => rw [he] at b2; cases b2
   | cons => rfl
  have hfa : fieldAt m ⟨35, 35, true⟩ = some (35, (formAt 35).printN (gi m 0)) := by
   unfold fieldAt; rw [hws, hne]; rfl
  rw [hfa]; exact ⟨_, rfl⟩
def bodyLen (l : List Fld) : Nat := (l.map fun f => (piece f).length).sum
theorem bodyLen_eq (l : List Fld) : ((l.map piece).flatten).length = bodyLen l := by
 unfold bodyLen; rw [List.length_flatten, List.map_map]; rfl
theorem piece_len {f : Fld} (h : tagBad f.1 = false) : (piece f).length ≤ f.2.length + 6 := by
 obtain ⟨h1, h2, _⟩ := tag_good h; have : (Lib.itoa f.1).length ≤ 4 := by rw [itoa_nat (by omega)]; exact decDigits_le (by decide) (by omega)
 unfold piece; simp only [List.length_append, List.length_cons, List.length_nil]; omega
theorem slot_tag_good {m : Msg} (h : Good m) {s : Slot} (hs : s ∈ slotsOf (gi m 0)) : tagBad s.tag = false := by
 have := slot_ok h hs; unfold slotOk at this; simp only [Bool.and_eq_true, Bool.not_eq_true'] at this; exact this.1
theorem most_bound (s : Slot) : slotMost s ≤ 60 := by
 unfold slotMost; split
 · decide
 · generalize formAt s.num = f; cases f <;> simp [Form.most]
   rename_i p
   cases p <;> simp [Form.most]
theorem filterMap_len {m : Msg} (h : Good m) : ∀ (all : List Slot), (∀ s ∈ all, s ∈ slotsOf (gi m 0)) → bodyLen (all.filterMap (fieldAt m)) ≤ (all.map fun s => slotMost s + 6).sum
 | [], _ => by simp [bodyLen]
 | s :: l, hin => by
  have ih := filterMap_len h l (fun t ht => hin t (by simp [ht])); rw [List.filterMap_cons, List.map_cons, List.sum_cons]; cases hb : fieldAt m s with
  | none => simp only; omega
  | some b =>
   obtain ⟨rfl, hne⟩ := fieldAt_some.1 hb; have hs := hin s (by simp); have hp := piece_len (f := (s.tag, written s m)) (slot_tag_good h hs); have hl := ((slot_says h hs).1 hne).len; unfold bodyLen at ih ⊢; simp only at hp ⊢; rw [List.map_cons, List.sum_cons]; omega
theorem fieldsOf_len {m : Msg} (h : Good m) : bodyLen (fieldsOf m) ≤ 900 :=
 Nat.le_trans (filterMap_len h _ fun _ hs => hs) (slots_most _ (kind_mem h.kind))
theorem joins_of {m : Msg} (h : Good m) {l : List Fld} (hl : ∀ f ∈ l, f ∈ fieldsOf m) (hb : bodyLen l ≤ 990) : Joins l := by
 refine ⟨fun f hf => ?_, fun f hf => ?_, ?_⟩
 · obtain ⟨s, hs, rfl, hne⟩ := mem_fieldsOf.1 (hl f hf); exact slot_tag_good h hs
 · obtain ⟨s, hs, rfl, hne⟩ := mem_fieldsOf.1 (hl f hf); exact ((slot_says h hs).1 hne).value
 · rw [framed_len, outOf_len, bodyLen_eq]; have : (Lib.itoa (bodyLen l : Int)).length ≤ 4 := by rw [itoa_nat (by omega)]; exact decDigits_le (by decide) (by omega)
   omega
def frameOf (l : List Fld) : List UInt8 := framed ((l.map piece).flatten)
theorem encode_good {m : Msg} (hm : WT m) (hv : (valid m).1 = 0) : encode m = (frameOf (fieldsOf m), 0) ∧ split (frameOf (fieldsOf m)) = .inl (fieldsOf m) ∧ (frameOf (fieldsOf m)).length ≤ 1024 := by
 have h := good_of hm hv; have hj := joins_of h (fun f hf => hf) (Nat.le_trans (fieldsOf_len h) (by decide)); refine ⟨?_, hj.split, hj.len⟩; unfold encode; rw [if_neg (by rw [hv]; decide)]; exact hj.join
theorem encode_bad {m : Msg} (hv : (valid m).1 ≠ 0) : encode m = ([], (valid m).1) := by
 unfold encode; rw [if_pos (by simpa using hv)]
theorem decode_encode {m : Msg} (hm : WT m) (hv : (valid m).1 = 0) : decode (encode m).1 = .inl m ∧ why (encode m).1 = (0, 0, m) := by
 obtain ⟨h1, h2, h3⟩ := encode_good hm hv; have h := good_of hm hv; obtain ⟨f1, f2⟩ := fieldsOf_fields h; have hr := readAll_whole hm hv f1 f2; rw [h1]; unfold decode why; simp only [h2, hr]; exact ⟨rfl, rfl⟩
end
section
open Go
structure Misses (m : Msg) (l : List Fld) (k : Nat) (x : Fld) : Prop where
 less : join (l.eraseIdx k) = (frameOf (l.eraseIdx k), 0)
 more : join (l ++ [x]) = (frameOf (l ++ [x]), 0)
 twice : decode (frameOf (l ++ [x])) = .inr ((l.length : Int), 51) ∧ ∃ n, why (frameOf (l ++ [x])) = (13, x.1, n)
 missing : has (gi m 0) x.1 = 2 → decode (frameOf (l.eraseIdx k)) = .inr (((l.eraseIdx k).length : Int), 50) ∧ ∃ n, why (frameOf (l.eraseIdx k)) = (1, x.1, n)
 other : decode (frameOf (l.eraseIdx k)) ≠ .inl m
end
section
open Go
theorem above_some {least n : Int} {r : Int × Int} (h : above least r = some n) : r.2 = 0 ∧ r.1 = n ∧ least ≤ n := by
 unfold above at h; split at h
 · rename_i hc
   simp only [Bool.and_eq_true, beq_iff_eq, decide_eq_true_eq] at hc; rw [← Option.some.inj h]; exact ⟨hc.1, rfl, hc.2⟩
 · cases h
theorem parseUint_range {s : List UInt8} {most : Int} (h : (parseUint s most).2 = 0) : 0 ≤ (parseUint s most).1 ∧ (parseUint s most).1 ≤ 9223372036854775807 := by
 unfold parseUint at h ⊢; split
 · decide
 · rename_i h1
   rw [if_neg h1] at h; split
   · decide
   · rename_i h2
     unfold greatest at h2; simp only; omega
theorem parsePrice_range {s : List UInt8} (h : (parsePrice s).2 = 0) : (parsePrice s).1 ≤ 1000000000 := by
 unfold parsePrice at h ⊢; simp only at h ⊢; split
 · decide
 · rename_i h1
   rw [if_neg h1] at h; split
   · decide
   · rename_i h2
     rw [if_neg h2] at h; split
     · decide
     · rename_i h3
       exact Int.not_lt.1 h3
theorem dayOf_bound {d n : Int} (h : dayOf d = some n) : 0 ≤ n ∧ n ≤ 3000000 := by
 unfold dayOf at h; simp only at h; split at h
 · cases h
 · rename_i hn
   have h1 := aheadY_range (d / 10000) (by omega) (by omega); have h2 := aheadM_range (d / 10000) (d / 100 % 100) (by omega) (by omega); have h3 := Option.some.inj h; omega
theorem parseStamp_range {s : List UInt8} (h : (parseStamp s).2 = 0) : 0 ≤ (parseStamp s).1 ∧ (parseStamp s).1 ≤ 300000000000000 := by
 unfold parseStamp at h ⊢; simp only at h ⊢; split
 · decide
 · rename_i h1
   rw [if_neg h1] at h; cases hd : dayOf (readOf ((longStamp s).take 8)) with
   | none => exact ⟨Int.le_refl 0, by show (0 : Int) ≤ 300000000000000; decide⟩
   | some n =>
    have hr := dayOf_bound hd; rw [hd] at h; simp only at h ⊢; split
    · rename_i hw
      unfold within at hw; simp only [Bool.and_eq_true, decide_eq_true_eq] at hw; simp only; omega
    · decide
def Form.sane (f : Form) : Bool := match f with
 | .numeral lo hi => decide (0 ≤ lo)
 | .coded first words => decide (0 ≤ first) && decide (first ≤ 1) && decide (words.length ≤ 100)
 | .timed l => decide (0 ≤ l)
 | _ => true
theorem forms_sane : forms.all Form.sane = true := by decide
theorem readN_range {f : Form} (hf : f.sane = true) {s : List UInt8} {n : Int} (h : f.readN s = some n) : 0 ≤ n ∧ n ≤ 9223372036854775807 := by
 cases f <;> simp only [Form.readN, Form.sane, Bool.and_eq_true, decide_eq_true_eq] at h hf
 case numeral lo hi =>
  obtain ⟨h1, h2, h3⟩ := above_some h; have := parseUint_range h1; omega
 case coded first words =>
  obtain ⟨i, hi, he⟩ := Option.map_eq_some_iff.1 h; unfold wordAt at hi; obtain ⟨hl, _⟩ := List.findIdx?_eq_some_iff_getElem.1 hi; omega
 case priced =>
  obtain ⟨h1, h2, h3⟩ := above_some h; have := parsePrice_range h1; omega
 case timed l =>
  obtain ⟨h1, h2, h3⟩ := above_some h; have := parseStamp_range h1; omega
 case date =>
  unfold dateIn at h; split at h
  · rename_i hc
    simp only [Bool.and_eq_true, beq_iff_eq] at hc; have := parseUint_range hc.1.1; rw [Option.some.inj h] at this; exact this
  · cases h
 case ordered =>
  split at h
  · rw [← Option.some.inj h]; decide
  · obtain ⟨h1, h2, h3⟩ := above_some h; have := parseUint_range h1; omega
 all_goals cases h
theorem read_cell {f : Form} (hf : f.sane = true) {s : List UInt8} (hs : s.length ≤ 140737488355328) {c : Cell} (h : f.read s = some c) : c.ty = f.ty ∧ c.ok = true := by
 have num : ∀ n, f.readN s = some n → c = .I n → f.ty = .I → c.ty = f.ty ∧ c.ok = true := by
  intro n hn hc ht; have := readN_range hf hn; rw [hc, ht]; refine ⟨rfl, ?_⟩; unfold Cell.ok; simp only [Bool.and_eq_true, decide_eq_true_eq]; omega
 cases f
 case text p =>
  unfold Form.read at h; simp only at h; split at h
  · cases h
  · rw [← Option.some.inj h]; exact ⟨rfl, by unfold Cell.ok; simpa using hs⟩
 case flag =>
  unfold Form.read at h; simp only at h; split at h
  · rw [← Option.some.inj h]; exact ⟨rfl, rfl⟩
  · split at h
    · rw [← Option.some.inj h]; exact ⟨rfl, rfl⟩
    · cases h
 all_goals
  obtain ⟨n, hn, hc⟩ := Option.map_eq_some_iff.1 h; exact num n hn hc.symm rfl
theorem forms_tys : forms.map Form.ty = tys := by decide
theorem WT.set {m : Msg} (h : WT m) {k : Nat} {c : Cell} (ht : tys[k]? = some c.ty) (hc : c.ok = true) : WT (m.set k c) := by
 refine ⟨?_, ?_⟩
 · rw [List.map_set, h.1]; refine List.ext_getElem? fun i => ?_
   by_cases hi : i = k
   · subst hi; rw [List.getElem?_set_self (List.getElem?_eq_some_iff.1 ht).1, ht]
   · rw [List.getElem?_set_ne (fun e => hi e.symm)]
 · rw [List.all_eq_true]; intro x hx; rcases List.mem_or_eq_of_mem_set hx with hx | rfl
   · exact List.all_eq_true.1 h.2 x hx
   · exact hc
theorem form_mem {num : Int} (h : cellOf num < 42) : forms[cellOf num]? = some (formAt num) := by
 unfold formAt; rw [List.getD_eq_getElem?_getD, List.getElem?_eq_getElem (by rw [forms_len]; exact h)]; rfl
theorem WT.read {m : Msg} (h : WT m) {num : Int} {s : List UInt8} (hs : s.length ≤ 140737488355328) {c : Cell} (hr : (formAt num).read s = some c) : WT (m.set (cellOf num) c) := by
 by_cases hc : cellOf num < 42
 · have hf := form_mem hc; obtain ⟨h1, h2⟩ := read_cell (List.all_eq_true.1 forms_sane _ (List.mem_of_getElem? hf)) hs hr; refine h.set ?_ h2; rw [← forms_tys, List.getElem?_map, hf, h1]; rfl
 · rw [List.set_eq_of_length_le (by rw [h.length]; omega)]; exact h
theorem WT.fits {m m' : Msg} (h : WT m) {s : Slot} {v : List UInt8} (hv : v.length ≤ 140737488355328) (hf : fitsIn s m v = some m') : WT m' := by
 unfold fitsIn at hf; split at hf
 · split at hf
   · rw [← Option.some.inj hf]; exact h
   · cases hf
 · split at hf
   · split at hf
     · rw [← Option.some.inj hf]; exact h
     · cases hf
   · split at hf
     · split at hf
       · rw [← Option.some.inj hf]; exact h
       · cases hf
     · obtain ⟨c, hc, he⟩ := Option.map_eq_some_iff.1 hf; rw [← he]; exact h.read hv hc
theorem WT.from {all : List Slot} {l : List Fld} : ∀ (r : List Fld) (i : Nat) (m : Msg), (∀ f ∈ r, f.2.length ≤ 140737488355328) → WT m → WT (readFrom all l i m r).1
 | [], i, m, _, h => h
 | f :: r, i, m, hr, h => by
  unfold readFrom; split
  · split <;> exact h
  · rename_i s hs
    split
    · exact h
    · split
      · exact h
      · rename_i m' hm'
        exact WT.from r (i + 1) m' (fun g hg => hr g (by simp [hg])) (h.fits (hr f (by simp)) hm')
theorem WT.life {m : Msg} (h : WT m) : WT (m.set 25 (.I 7)) := h.set (by decide) (by decide)
theorem fieldTell_len {s : List UInt8} {k stop k' : Nat} {f : Fld} (h : fieldTell s k stop = .inl (f, k')) : f.2.length ≤ s.length := by
 unfold fieldTell at h; simp only at h; split at h
 · cases h
 · split at h
   · cases h
   · have := Sum.inl.inj h; rw [← (Prod.mk.inj this).1]; simp only [List.length_take, List.length_drop]; omega
theorem fieldsTell_len {s : List UInt8} {stop : Nat} : ∀ (fuel k : Nat) (acc l : List Fld), (∀ f ∈ acc, f.2.length ≤ s.length) → fieldsTell s stop fuel k acc = .inl l → ∀ f ∈ l, f.2.length ≤ s.length
 | 0, k, acc, l, ha, h => by rw [← Sum.inl.inj h]; exact ha
 | fuel + 1, k, acc, l, ha, h => by
  unfold fieldsTell at h; split at h
  · rw [← Sum.inl.inj h]; exact ha
  · split at h
    · cases h
    · rename_i f k' hf
      refine fieldsTell_len fuel k' _ l (fun g hg => ?_) h; rcases List.mem_append.1 hg with hg | hg
      · exact ha g hg
      · rw [List.mem_singleton.1 hg]; exact fieldTell_len hf
theorem split_len {s : List UInt8} {l : List Fld} (h : split s = .inl l) : s.length ≤ 1024 ∧ ∀ f ∈ l, f.2.length ≤ s.length := by
 unfold split at h; split at h
 · cases h
 · rename_i hl
   refine ⟨by omega, ?_⟩; split at h
   · cases h
   · split at h
     · cases h
     · split at h
       · cases h
       · exact fieldsTell_len _ _ _ _ (by simp) h
end
section
open Go
def example0 : Msg := ((((((noMsg.set 0 (.I 2)).set 1 (.S [65])).set 2 (.S [66])).set 3 (.I 7)).set 5 (.I 1709210096789)).set 9 (.S [120]))
def want0 : List UInt8 := [56, 61, 70, 73, 88, 46, 52, 46, 52, 1, 57, 61, 53, 49, 1, 51, 53, 61, 49, 1, 52, 57, 61, 65, 1, 53, 54, 61, 66, 1, 51, 52, 61, 55, 1, 53, 50, 61, 50, 48, 50, 52, 48, 50, 50, 57, 45, 49, 50, 58, 51, 52, 58, 53, 54, 46, 55, 56, 57, 1, 49, 49, 50, 61, 120, 1, 49, 48, 61]
theorem example0_wt : WT example0 := by decide
theorem example0_valid : valid example0 = (0, 0) := by decide +kernel
theorem example0_frame : (frameOf (fieldsOf example0)).take want0.length = want0 ∧ want0.length < (frameOf (fieldsOf example0)).length := by decide +kernel
end
section
open Go
theorem decDigits_step (m : Nat) : Lib.decDigits m = (if m / 10 = 0 then [] else Lib.decDigits (m / 10)) ++ [UInt8.ofNat (48 + m % 10)] := by
 rw [Lib.decDigits]; by_cases h : m < 10
 · rw [dif_pos h, if_pos (by omega), Nat.mod_eq_of_lt h]; rfl
 · rw [dif_neg h, if_neg (by omega)]
def longOf (y m : Int) : Int := aheadM y (m + 1) - aheadM y m
def valN (m : Msg) (k : Nat) : Int := match m[k]? with
 | some (.I n) => n
 | some (.B b) => if b then 1 else 0
 | _ => 0
theorem there_val (m : Msg) (k : Nat) : there m k = (valN m k != 0 || !(gs m k).isEmpty) := by
 unfold there valN gs; cases m[k]? with
 | none => rfl
 | some c => cases c with
  | I n => simp
  | S s => simp
  | B b => cases b <;> rfl
theorem valN_int {m : Msg} (hm : WT m) {k : Nat} (hk : tys[k]? = some .I) : valN m k = gi m k := by unfold valN; rw [hm.int hk]
theorem valN_bool {m : Msg} (hm : WT m) {k : Nat} (hk : tys[k]? = some .B) : valN m k = if gb m k then 1 else 0 := by unfold valN; rw [hm.bool hk]
theorem valN_str {m : Msg} (hm : WT m) {k : Nat} (hk : tys[k]? = some .S) : valN m k = 0 := by unfold valN; rw [hm.str hk]
theorem row_ty {k : Nat} {r : Row} (hr : rows[k]? = some r) : tys[k + 1]? = some r.what.ty := by
 unfold tys; rw [List.getElem?_cons_succ, List.getElem?_map, hr]; rfl
def fine3 (r : Row) (n : Int) (s : List UInt8) : Bool := match r.what with
 | .num => decide (r.lo ≤ n) && decide (n ≤ r.hi)
 | .truth => true
 | .name => isName s
 | .id => isID s
 | .symbol => isSymbol s
 | .text => isText s
 | .test => isTest s
 | .date => (dayOf n).isSome
theorem fine_val {m : Msg} (hm : WT m) {k : Nat} {r : Row} (hr : rows[k]? = some r) (ht : there m (k + 1) = true) : fine m (k + 1) r = fine3 r (valN m (k + 1)) (gs m (k + 1)) := by
 have hty := row_ty hr; unfold fine fine3; cases hw : r.what <;> rw [hw] at hty <;> simp only
 · rw [valN_int hm hty]
 · unfold there at ht; rw [hm.bool hty] at ht; exact ht
 · rw [valN_int hm hty]
def rows3 : List Row := ⟨35, .num, 1, 17, false, allK, 0⟩ :: rows
def lists3 : List (List Int × List Int) := [([0], []), ([0], []), ([0], []), ([0], []), ([], [0]), ([0], []), ([], [0]), ([7], []), ([], [7]), ([2], [1]), ([3], []), ([3], []), ([5], []), ([], [5]), ([4, 16], []), ([16], [4]),
 ([], [4]), ([4, 16, 14], [13, 15]), ([], [5, 4, 6, 13, 14, 15, 16, 17]), ([8, 9, 10, 11, 12, 13, 14, 15], []), ([9, 10, 14], [13]), ([8, 13], [11]), ([8, 9, 10, 12, 13, 17], [11, 15]), ([8, 9, 10, 12, 13], [11]),
 ([8], [13]), ([8], [13]), ([], [8, 10, 13]), ([], [8, 10, 13]), ([8, 10, 13], []), ([], [8, 13]), ([], [8]), ([], [8]), ([13, 14], []), ([13], []), ([13], []), ([13, 14], []), ([], [13]), ([], [13]), ([13], []), ([13], []), ([17], []), ([15], [])]
def whatN : What → Int
 | .num => 0
 | .truth => 1
 | .name => 2
 | .id => 3
 | .symbol => 4
 | .text => 5
 | .test => 6
 | .date => 7
def amongL (kind : Int) (l : List Int) : Bool := l.any (fun x => x == kind || x == 0) && isKind kind
theorem lists_say : (List.zipWith (fun (r : Row) (l : List Int × List Int) => kindsL.all fun k => amongL k l.1 == inSet r.must k && amongL k l.2 == inSet r.may k) rows3 lists3).all id = true := by decide +kernel
theorem rows3_len : rows3.length = 42 := by decide
theorem lists3_len : lists3.length = 42 := by decide
theorem among_is {k : Nat} {r : Row} {l : List Int × List Int} (hr : rows3[k]? = some r) (hl : lists3[k]? = some l) (kind : Int) : amongL kind l.1 = inSet r.must kind ∧ amongL kind l.2 = inSet r.may kind := by
 by_cases h : isKind kind = true
 · have hz := List.all_eq_true.1 lists_say (kindsL.all fun k => amongL k l.1 == inSet r.must k && amongL k l.2 == inSet r.may k) (List.mem_of_getElem? (i := k) (by rw [List.getElem?_zipWith, hr, hl])); have := List.all_eq_true.1 hz kind (kind_mem h); simpa using this
 · have h : isKind kind = false := by simpa using h
   simp [amongL, inSet, h]
theorem rowFault_first {m : Msg} (hm : WT m) (hk : isKind (gi m 0) = true) : rowFault m 0 ⟨35, .num, 1, 17, false, allK, 0⟩ = none := by
 have h1 : inSet allK (gi m 0) = true := by
  have : kindsL.all (fun k => inSet allK k) = true := by decide
  exact List.all_eq_true.1 this _ (kind_mem hk)
 have h2 : there m 0 = true := by
  unfold there; rw [hm.int (k := 0) rfl]; unfold isKind at hk; simp at hk ⊢; omega
 unfold isKind at hk; unfold rowFault fine; simp only [h1, h2, hk]; rfl
theorem rowsFault_first {m : Msg} (hm : WT m) (hk : isKind (gi m 0) = true) : rowsFault m 0 rows3 = rowsFault m 1 rows := by
 show (match rowFault m 0 ⟨35, .num, 1, 17, false, allK, 0⟩ with | some e => some e | none => rowsFault m (0 + 1) rows) = _
 rw [rowFault_first hm hk]
theorem has_row : ∀ k ∈ kindsL, rows.all (fun r => has k r.num == if inSet r.must k then 2 else if inSet r.may k then 1 else 0) = true := by decide +kernel
theorem has_of {m : Msg} (hk : isKind (gi m 0) = true) {k : Nat} {r : Row} (hr : rows[k]? = some r) : has (gi m 0) r.num = if inSet r.must (gi m 0) then 2 else if inSet r.may (gi m 0) then 1 else 0 := by
 have := List.all_eq_true.1 (has_row _ (kind_mem hk)) r (List.mem_of_getElem? hr); simpa using this
theorem tags_no : rows.all (fun r => r.num != 98 && r.num != 18 && r.num != 530 && r.num != 0) = true := by decide +kernel
theorem life_orders : ∀ k ∈ kindsL, orders k = decide (0 < has k 59) := by decide +kernel
def tagOf (kind n : Int) : Int := if n == 373 then (if kind == 16 then 380 else if kind == 14 then 102 else if kind == 13 then 103 else if kind == 15 then 532 else 373) else n
theorem reason_tag : ∀ k ∈ kindsL, 0 < has k 373 → reasonTag k = tagOf k 373 := by decide +kernel
theorem tagOf_no : ∀ k ∈ kindsL, tagOf k 373 ≠ 98 ∧ tagOf k 373 ≠ 18 ∧ tagOf k 373 ≠ 530 := by decide +kernel
def codesL (num : Int) : Option (List (List UInt8)) :=
 if num == 54 then some [[49], [50]] else if num == 40 then some [[50], [49], [51], [52]] else if num == 59 then some [[48], [51], [52], [49], [54], [50], [48]]
 else if num == 150 then some [[48], [56], [70], [52], [53], [76], [67], [73]] else if num == 39 then some [[48], [49], [50], [52], [56], [67]]
 else if num == 326 then some [[49, 56], [50, 49], [50, 50], [49, 55], [50], [50, 54]] else if num == 35 || num == 372 then some typesL else none
def firstNo (num : Int) : Int := if num == 326 then 0 else 1
def flagN (num : Int) : Bool := [43, 123, 141].contains num
def timeN (num : Int) : Bool := num == 52 || num == 122
def priceN (num : Int) : Bool := [44, 99, 31].contains num
def textN (num : Int) : Bool := [49, 56, 112, 58, 11, 41, 1, 55].contains num
def written3 (num n : Int) (s : List UInt8) : List UInt8 := match codesL num with
 | some c => c.getD (n - firstNo num).toNat []
 | none => if flagN num then [89] else if timeN num then stampOf n else if priceN num then priceOf n else if textN num then s else if num == 37 && n == 0 then noneL else Lib.itoa n
def writable (num n : Int) : Bool := match codesL num with
 | some c => decide (firstNo num ≤ n) && decide (n < firstNo num + c.length)
 | none => (!timeN num || (decide (0 ≤ n) && decide (n ≤ maxTime))) && (!priceN num || (decide (0 ≤ n) && decide (n ≤ maxPrice)))
def plainN (num : Int) : Bool := (codesL num).isNone && !flagN num && !timeN num && !priceN num && !textN num
def formLike (num : Int) (f : Form) : Bool := match f with
 | .coded first words => (codesL num == some words || (num == 59 && codesL num == some (words ++ [[48]]))) && first == firstNo num
 | .flag => (codesL num).isNone && flagN num
 | .timed _ => (codesL num).isNone && !flagN num && timeN num && !priceN num
 | .priced => (codesL num).isNone && !flagN num && !timeN num && priceN num
 | .text _ => (codesL num).isNone && !flagN num && !timeN num && !priceN num && textN num
 | .ordered => plainN num && num == 37
 | _ => plainN num && num != 37
theorem forms_like : (List.zipWith formLike numbered forms).all id = true := by decide +kernel
theorem form_like {k : Nat} {r : Row} {f : Form} (hr : rows[k]? = some r) (hf : forms[k + 1]? = some f) : formLike r.num f = true := by
 refine List.all_eq_true.1 forms_like _ (List.mem_of_getElem? (i := k + 1) ?_); rw [List.getElem?_zipWith, hf]; unfold numbered; rw [List.getElem?_cons_succ, List.getElem?_map, hr]; rfl
theorem print_int {num : Int} {f : Form} (h : formLike num f = true) (ht : f.ty = .I) (n : Int) (s : List UInt8) (h7 : ¬ (num = 59 ∧ n = 7)) : f.printN n = written3 num n s := by
 unfold written3; cases f with
 | coded first words =>
  simp only [formLike, Bool.and_eq_true, Bool.or_eq_true, beq_iff_eq] at h; obtain ⟨h1 | ⟨h1, h2⟩, h3⟩ := h
  · rw [h1, h3]; rfl
  · rw [h2, h3]; show words.getD (n - firstNo num).toNat [] = (words ++ [[48]]).getD (n - firstNo num).toNat []
    have hl : words.length = 6 := by
     rw [h1] at h2; have := congrArg List.length (Option.some.inj h2); simpa using this.symm
    have hf : firstNo num = 1 := by rw [h1]; rfl
    rw [hf]; have hi : (n - 1).toNat ≠ 6 := by
     intro e; exact h7 ⟨h1, by omega⟩
    simp only [List.getD_eq_getElem?_getD]; by_cases hlt : (n - 1).toNat < words.length
    · rw [List.getElem?_append_left hlt]
    · rw [List.getElem?_append_right (by omega), List.getElem?_eq_none (by omega), List.getElem?_eq_none (by simp; omega)]
 | numeral lo hi =>
  simp only [formLike, plainN, Bool.and_eq_true, Bool.not_eq_true', Option.isNone_iff_eq_none, bne_iff_ne] at h; obtain ⟨⟨⟨⟨⟨h1, h2⟩, h3⟩, h4⟩, h5⟩, h6⟩ := h; have h6 : (num == 37) = false := by simpa using h6
  rw [h1]; simp only [h2, h3, h4, h5, h6, Bool.false_and, Bool.false_eq_true, if_false]; rfl
 | date =>
  simp only [formLike, plainN, Bool.and_eq_true, Bool.not_eq_true', Option.isNone_iff_eq_none, bne_iff_ne] at h; obtain ⟨⟨⟨⟨⟨h1, h2⟩, h3⟩, h4⟩, h5⟩, h6⟩ := h; have h6 : (num == 37) = false := by simpa using h6
  rw [h1]; simp only [h2, h3, h4, h5, h6, Bool.false_and, Bool.false_eq_true, if_false]; rfl
 | ordered =>
  simp only [formLike, plainN, Bool.and_eq_true, Bool.not_eq_true', Option.isNone_iff_eq_none] at h; obtain ⟨⟨⟨⟨⟨h1, h2⟩, h3⟩, h4⟩, h5⟩, h6⟩ := h; rw [h1]; simp only [h2, h3, h4, h5, h6, Bool.true_and, Bool.false_eq_true, if_false]; rfl
 | priced =>
  simp only [formLike, Bool.and_eq_true, Bool.not_eq_true', Option.isNone_iff_eq_none] at h; obtain ⟨⟨⟨h1, h2⟩, h3⟩, h4⟩ := h; rw [h1]; simp only [h2, h3, h4, Bool.false_eq_true, if_false, if_true]; rfl
 | timed l =>
  simp only [formLike, Bool.and_eq_true, Bool.not_eq_true', Option.isNone_iff_eq_none] at h; obtain ⟨⟨⟨h1, h2⟩, h3⟩, h4⟩ := h; rw [h1]; simp only [h2, h3, Bool.false_eq_true, if_false, if_true]; rfl
 | text p => cases ht
 | flag => cases ht
theorem forms_tys3 : forms.map Form.ty = tys := by decide
theorem print_cell {m : Msg} (hm : WT m) {k : Nat} {r : Row} {f : Form} (hr : rows[k]? = some r) (hf : forms[k + 1]? = some f) (h7 : ¬ (r.num = 59 ∧ valN m (k + 1) = 7)) :
 f.print (m.getD (k + 1) (.B false)) = written3 r.num (valN m (k + 1)) (gs m (k + 1)) := by
 have hl := form_like hr hf; have hty := row_ty hr; have hfty : f.ty = r.what.ty := by
  have h := forms_tys3; have h1 : (forms.map Form.ty)[k + 1]? = some f.ty := by rw [List.getElem?_map, hf]; rfl
  rw [h, hty] at h1; exact (Option.some.inj h1).symm
 cases hw : r.what.ty with
 | I =>
  rw [hw] at hty hfty; rw [valN_int hm hty] at h7 ⊢; rw [List.getD_eq_getElem?_getD, hm.int hty]; exact print_int hl hfty _ _ h7
 | S =>
  rw [hw] at hty hfty; rw [List.getD_eq_getElem?_getD, hm.str hty]; unfold written3; cases f with
  | text p =>
   simp only [formLike, Bool.and_eq_true, Bool.not_eq_true', Option.isNone_iff_eq_none] at hl; obtain ⟨⟨⟨⟨h1, h2⟩, h3⟩, h4⟩, h5⟩ := hl; rw [h1]; simp only [h2, h3, h4, h5, Bool.false_eq_true, if_false, if_true]; rfl
  | _ => cases hfty
 | B =>
  rw [hw] at hty hfty; rw [List.getD_eq_getElem?_getD, hm.bool hty]; unfold written3; cases f with
  | flag =>
   simp only [formLike, Bool.and_eq_true, Option.isNone_iff_eq_none] at hl; obtain ⟨h1, h2⟩ := hl; rw [h1]; simp only [h2, if_true]; rfl
  | _ => cases hfty
theorem may_writable {num : Int} {f : Form} (h : formLike num f = true) (n : Int) (hp : f.ty = .I → f.printable n = true) (hz : f.ty ≠ .I → n = 0 ∨ n = 1) : writable num n = true := by
 unfold writable; cases f with
 | coded first words =>
  have hp := hp rfl; simp only [Form.printable, Bool.and_eq_true, decide_eq_true_eq] at hp; simp only [formLike, Bool.and_eq_true, Bool.or_eq_true, beq_iff_eq] at h; obtain ⟨h1 | ⟨h1, h2⟩, h3⟩ := h
  · rw [h1, ← h3]; simp; omega
  · rw [h2, ← h3]; simp; omega
 | numeral lo hi =>
  simp only [formLike, plainN, Bool.and_eq_true, Bool.not_eq_true', Option.isNone_iff_eq_none, bne_iff_ne] at h; obtain ⟨⟨⟨⟨⟨h1, h2⟩, h3⟩, h4⟩, h5⟩, h6⟩ := h; rw [h1]; simp only [h3, h4]; rfl
 | date =>
  simp only [formLike, plainN, Bool.and_eq_true, Bool.not_eq_true', Option.isNone_iff_eq_none, bne_iff_ne] at h; obtain ⟨⟨⟨⟨⟨h1, h2⟩, h3⟩, h4⟩, h5⟩, h6⟩ := h; rw [h1]; simp only [h3, h4]; rfl
 | ordered =>
  simp only [formLike, plainN, Bool.and_eq_true, Bool.not_eq_true', Option.isNone_iff_eq_none] at h; obtain ⟨⟨⟨⟨⟨h1, h2⟩, h3⟩, h4⟩, h5⟩, h6⟩ := h; rw [h1]; simp only [h3, h4]; rfl
 | priced =>
  have hp := hp rfl; simp only [Form.printable] at hp; simp only [formLike, Bool.and_eq_true, Bool.not_eq_true', Option.isNone_iff_eq_none] at h; obtain ⟨⟨⟨h1, h2⟩, h3⟩, h4⟩ := h; rw [h1]; simp only [h3, h4, hp]; rfl
 | timed l =>
  have hp := hp rfl; simp only [Form.printable] at hp; simp only [formLike, Bool.and_eq_true, Bool.not_eq_true', Option.isNone_iff_eq_none] at h; obtain ⟨⟨⟨h1, h2⟩, h3⟩, h4⟩ := h; rw [h1]; simp only [h3, h4, hp]; rfl
 | text p =>
  simp only [formLike, Bool.and_eq_true, Bool.not_eq_true', Option.isNone_iff_eq_none] at h; obtain ⟨⟨⟨⟨h1, h2⟩, h3⟩, h4⟩, h5⟩ := h; rw [h1]; simp only [h3, h4]; rfl
 | flag =>
  simp only [formLike, Bool.and_eq_true, Option.isNone_iff_eq_none] at h; obtain ⟨h1, h2⟩ := h; have : num = 43 ∨ num = 123 ∨ num = 141 := by simpa [flagN] using h2
  rcases this with rfl | rfl | rfl <;> rfl
def fieldsAt3 (m : Msg) (k : Nat) : List Fld :=
 (if numbered.getD k 0 == 108 && gi m 0 == 7 then [(98, [48])] else []) ++
 if valN m k == 0 && (gs m k).isEmpty && has (gi m 0) (numbered.getD k 0) != 2 then []
 else (tagOf (gi m 0) (numbered.getD k 0), written3 (numbered.getD k 0) (valN m k) (gs m k)) :: if numbered.getD k 0 == 59 && valN m k == 7 then [(18, [54])] else []
def fields3 (m : Msg) : List Fld := (List.range 42).flatMap (fieldsAt3 m) ++ if hasScope (gi m 0) then [(530, scopeOf m)] else []
theorem filterMap_flatMap' {α β γ : Type} (f : β → Option γ) (g : α → List β) : ∀ l : List α, (l.flatMap g).filterMap f = l.flatMap fun a => (g a).filterMap f
 | [] => rfl
 | a :: l => by rw [List.flatMap_cons, List.filterMap_append, filterMap_flatMap' f g l, List.flatMap_cons]
theorem fieldAt_ne {m : Msg} {s : Slot} (h : written s m ≠ []) : [s].filterMap (fieldAt m) = [(s.tag, written s m)] := by
 have : fieldAt m s = some (s.tag, written s m) := fieldAt_some.2 ⟨rfl, h⟩; simp [this]
theorem fieldAt_no {m : Msg} {s : Slot} (h : written s m = []) : [s].filterMap (fieldAt m) = [] := by
 have : fieldAt m s = none := by unfold fieldAt; rw [h]; rfl
 simp [this]
theorem numbered_at {k : Nat} {r : Row} (hr : rows[k]? = some r) : numbered.getD (k + 1) 0 = r.num := by
 unfold numbered; rw [List.getD_eq_getElem?_getD, List.getElem?_cons_succ, List.getElem?_map, hr]; rfl
theorem fields_row {m : Msg} (hg : Good m) {k : Nat} {r : Row} (hr : rows[k]? = some r) : (slotsAt (gi m 0) r.num).filterMap (fieldAt m) = fieldsAt3 m (k + 1) := by
 have hkm := kind_mem hg.kind; have hh := has_of hg.kind hr; have htv := there_val m (k + 1); have hno := List.all_eq_true.1 tags_no r (List.mem_of_getElem? hr); simp only [Bool.and_eq_true, bne_iff_ne] at hno; obtain ⟨⟨⟨n1, n2⟩, n3⟩, n4⟩ := hno; unfold slotsAt fieldsAt3; rw [numbered_at hr, List.filterMap_append, List.filterMap_append, List.append_assoc]; congr 1
 · split
   · exact fieldAt_ne (s := ⟨98, 0, true⟩) (by show ([48] : List UInt8) ≠ []; decide)
   · rfl
 · by_cases h0 : 0 < has (gi m 0) r.num
   · rw [if_pos h0]; obtain ⟨tag, htag⟩ : ∃ t, (if r.num == 373 then reasonTag (gi m 0) else r.num) = t := ⟨_, rfl⟩
     have htag2 : tag = tagOf (gi m 0) r.num := by
      rw [← htag]; by_cases h373 : r.num = 373
      · rw [if_pos (by simpa using h373), h373]; rw [h373] at h0; exact reason_tag _ hkm h0
      · rw [if_neg (by simpa using h373)]; unfold tagOf; rw [if_neg (by simpa using h373)]
     have ht123 : tag ≠ 98 ∧ tag ≠ 18 ∧ tag ≠ 530 := by
      rw [htag2]; by_cases h373 : r.num = 373
      · rw [h373]; exact tagOf_no _ hkm
      · unfold tagOf; rw [if_neg (by simpa using h373)]; exact ⟨n1, n2, n3⟩
     rw [htag, ← htag2]; obtain ⟨mu, hmu⟩ : ∃ b, (has (gi m 0) r.num == 2) = b := ⟨_, rfl⟩
     have hmem : (⟨tag, r.num, mu⟩ : Slot) ∈ slotsOf (gi m 0) := by
      unfold slotsOf; refine List.mem_append_left _ (List.mem_flatMap.2 ⟨r.num, ?_, ?_⟩)
      · unfold numbered; exact List.mem_cons_of_mem _ (List.mem_map.2 ⟨r, List.mem_of_getElem? hr, rfl⟩)
      · unfold slotsAt; rw [if_pos h0, htag, hmu]; simp
     have hsay := slot_says hg hmem; have hcell : cellOf r.num = k + 1 := cellOf_row hr; rw [hmu]; have hne2 : (has (gi m 0) r.num != 2) = !mu := by rw [← hmu]; rfl
     rw [hne2]; by_cases h7 : r.num = 59 ∧ valN m (k + 1) = 7
     · obtain ⟨e1, e2⟩ := h7; have hk : k + 1 = 25 := by rw [← hcell, e1]; decide
       have h25 : gi m 25 = 7 := by rw [← valN_int hg.wt (k := 25) rfl, ← hk]; exact e2
       have hw : written ⟨tag, r.num, mu⟩ m = [48] := by
        unfold written; rw [if_neg (by simpa using ht123.1), if_neg (by simpa using ht123.2.1), if_neg (by simpa using ht123.2.2), if_pos (by simp [e1, h25])]
       have hor : orders (gi m 0) = true := by
        rw [life_orders _ hkm, ← e1]; simpa using h0
       have hw18 : written ⟨18, 0, false⟩ m = [54] := by rw [written_18 rfl, h25]; rfl
       rw [fieldAt_ne (by rw [hw]; decide), hw, e1, e2, hor]; rw [if_pos (by decide), fieldAt_ne (by rw [hw18]; decide), hw18]; rfl
     · have h59 : (if r.num == 59 && orders (gi m 0) then [(⟨18, 0, false⟩ : Slot)] else []).filterMap (fieldAt m) = [] := by
        split
        · rename_i hc
          simp only [Bool.and_eq_true, beq_iff_eq] at hc; have hk : k + 1 = 25 := by rw [← hcell, hc.1]; decide
          refine fieldAt_no ?_; rw [written_18 rfl, if_neg]; intro h25; refine h7 ⟨hc.1, ?_⟩; rw [hk, valN_int hg.wt rfl]; simpa using h25
        · rfl
       have h59b : (r.num == 59 && valN m (k + 1) == 7) = false := by
        rw [Bool.eq_false_iff]; intro h; simp only [Bool.and_eq_true, beq_iff_eq] at h; exact h7 h
       rw [h59, h59b, List.append_nil]; obtain ⟨f, hf, _⟩ := form_agrees hr; have hfa : formAt r.num = f := by
        unfold formAt; rw [hcell, List.getD_eq_getElem?_getD, hf]; rfl
       have h7' : r.num ≠ 59 ∨ gi m 25 ≠ 7 := by
        by_cases e1 : r.num = 59
        · right
          intro e2; have hk : k + 1 = 25 := by rw [← hcell, e1]; decide
          exact h7 ⟨e1, by rw [hk, valN_int hg.wt rfl]; exact e2⟩
        · exact .inl e1
       have hw := written_num (m := m) (s := ⟨tag, r.num, mu⟩) ht123.1 ht123.2.1 ht123.2.2 h7'; simp only [hcell, hfa] at hw; rw [print_cell hg.wt hr hf h7] at hw; have hcond : (valN m (k + 1) == 0 && (gs m (k + 1)).isEmpty && !mu) = (!mu && !there m (k + 1)) := by
        rw [htv]; rw [show (valN m (k + 1) == 0) = !(valN m (k + 1) != 0) from by simp [bne]]; cases mu <;> cases (gs m (k + 1)).isEmpty <;> cases (valN m (k + 1) != 0) <;> rfl
       rw [hcond]; by_cases hc : (!mu && !there m (k + 1)) = true
       · rw [if_pos hc] at hw ⊢; exact fieldAt_no hw
       · rw [if_neg hc] at hw ⊢; have hne : written ⟨tag, r.num, mu⟩ m ≠ [] := by
          intro e; have ht := hsay.2.2 n4 e; simp only [hcell] at ht; cases mu with
          | true => exact hsay.2.1 rfl e
          | false => exact hc (by rw [ht]; rfl)
         rw [fieldAt_ne hne, hw]; rfl
   · rw [if_neg h0]; have hz : inSet r.must (gi m 0) = false ∧ inSet r.may (gi m 0) = false := by
      rw [hh] at h0; cases h1 : inSet r.must (gi m 0) <;> cases h2 : inSet r.may (gi m 0) <;> rw [h1, h2] at h0 <;> simp at h0 ⊢
     have hth := hg.absent hr hz.1 hz.2; rw [htv] at hth; simp only [Bool.or_eq_false_iff, bne_eq_false_iff_eq, Bool.not_eq_false'] at hth; have h00 : has (gi m 0) r.num = 0 := by rw [hh, hz.1, hz.2]; rfl
     have h59 : (r.num == 59 && orders (gi m 0)) = false := by
      by_cases e1 : r.num = 59
      · rw [life_orders _ hkm, ← e1, h00]; simp
      · simp [e1]
     rw [h59, hth.1, hth.2, h00]; rfl
theorem fields_first {m : Msg} (hg : Good m) : (slotsAt (gi m 0) 35).filterMap (fieldAt m) = fieldsAt3 m 0 := by
 have hkm := kind_mem hg.kind; have h2 : has (gi m 0) 35 = 2 := by unfold has; rw [if_pos (by rw [hg.kind]; rfl)]
 have hs : slotsAt (gi m 0) 35 = [⟨35, 35, true⟩] := by
  unfold slotsAt; rw [h2]; rfl
 have hw : written ⟨35, 35, true⟩ m = (formAt 35).printN (gi m 0) := by
  rw [written_num (by decide) (by decide) (by decide) (Or.inl (by decide)), if_neg (by simp)]; rw [show cellOf 35 = 0 from by decide, List.getD_eq_getElem?_getD, hg.wt.int (k := 0) rfl]; rfl
 have hne : written ⟨35, 35, true⟩ m ≠ [] := by
  rw [hw]; intro e; have := (type_back _ hkm).2.1; rw [e] at this; cases this
 rw [hs, fieldAt_ne hne, hw]; unfold fieldsAt3; have hk0 : (valN m 0 == 0) = false := by
  rw [valN_int hg.wt rfl]; have := hg.kind; unfold isKind at this; simp at this ⊢; omega
 rw [show numbered.getD 0 0 = 35 from rfl, hk0, valN_int hg.wt rfl]; rfl
theorem flatMap_same {α β : Type} {f g : α → List β} : ∀ {l : List α}, (∀ x ∈ l, f x = g x) → l.flatMap f = l.flatMap g
 | [], _ => rfl
 | x :: l, h => by rw [List.flatMap_cons, List.flatMap_cons, h x (by simp), flatMap_same fun y hy => h y (by simp [hy])]
theorem numbered_range : numbered = (List.range 42).map fun k => numbered.getD k 0 := by decide
theorem fields3_eq {m : Msg} (hg : Good m) : fields3 m = fieldsOf m := by
 unfold fieldsOf slotsOf fields3; rw [List.filterMap_append, filterMap_flatMap']; congr 1
 · rw [numbered_range, List.flatMap_map]; refine flatMap_same fun k hk => ?_
   have hk : k < 42 := by simpa using hk
   cases k with
   | zero => exact (fields_first hg).symm
   | succ j =>
    have hj : j < rows.length := by rw [rows_len]; omega
    have hr : rows[j]? = some rows[j] := List.getElem?_eq_getElem hj; rw [numbered_at hr]; exact (fields_row hg hr).symm
 · cases hasScope (gi m 0) with
   | true =>
    have hw : written ⟨530, 0, true⟩ m = scopeOf m := written_530 rfl; rw [if_pos rfl, if_pos rfl, fieldAt_ne (by rw [hw]; rcases scopeOf_says m with e | e <;> rw [e] <;> decide), hw]
   | false => rfl
end
end Go.Proofs.YtdmjinlgdkgoiaaGreatDoor
