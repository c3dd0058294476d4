/- Of the layer fix: Turned. -/
import Derived.Test.YtdmjinlgdkgoiaaGreatDoorFbAl
import Derived.Test.YtdmjinlgdkgoiaaGreatDoorFbAn
import Derived.Test.YtdmjinlgdkgoiaaGreatDoorFbAs
set_option linter.unusedVariables false
set_option linter.unusedSimpArgs false
namespace Go.Proofs.YtdmjinlgdkgoiaaGreatDoor
section
open Go Go.RowKit
set_option maxHeartbeats 6400000
set_option maxRecDepth 100000
attribute [local go_sem] ba_get
def pickOf (c n : Int) : Int := (if c < 0 then -(c + 1) else c).tmod n
theorem pickOf_lt {c n : Int} (h : 0 < n) : 0 ≤ pickOf c n ∧ pickOf c n < n := by
  unfold pickOf
  split
  · rw [Int.tmod_eq_emod_of_nonneg (by omega)]; exact ⟨Int.emod_nonneg _ (by omega), Int.emod_lt_of_pos _ h⟩
  · rw [Int.tmod_eq_emod_of_nonneg (by omega)]; exact ⟨Int.emod_nonneg _ (by omega), Int.emod_lt_of_pos _ h⟩
theorem pick_calls (c n : Int) (w : World) (h1 : -9223372036854775808 ≤ c) (h2 : c ≤ 9223372036854775807) (hn : 0 < n) (hn2 : n ≤ 9223372036854775807) :
    Calls Tryz.prog 21 #[.int .i64 c, .int .i64 n] w fun e w' => e = .returned (.int .i64 (pickOf c n)) ∧ w' = w := by
  have hp := pickOf_lt (c := c) hn; obtain ⟨p, hpe⟩ : ∃ p, pickOf c n = p := ⟨_, rfl⟩
  rw [hpe] at hp ⊢; unfold pickOf at hpe; obtain ⟨hp1, hp2⟩ := hp; have hnz : (n == 0) = false := by simp; omega
  by_cases h0 : c < 0
  · rw [if_pos h0] at hpe; have hq : (-(c + 1)).tmod n = p := hpe
    go_enter Tryz.func21, Tryz.ntmps21
    go_wp2; go_ret; exact ⟨rfl, rfl⟩
  · rw [if_neg h0] at hpe
    go_enter Tryz.func21, Tryz.ntmps21
    go_wp2; go_ret; exact ⟨rfl, rfl⟩
theorem OwnF.form {w : World} {base : Nat} {v : Value} {l : List Fld} (h : OwnF w base v l) (hne : l ≠ []) :
    ∃ g cap, v = .slice (some ⟨g, 0, none⟩) l.length cap ∧ base ≤ g ∧ g < w.heap.size ∧ l.length ≤ cap ∧ cap ≤ maxLen ∧ ∀ j u, (fldCells l)[j]? = some u → w.cell? ⟨g, j, none⟩ = some u := by
  rcases h.2 with ⟨_, h0⟩ | ⟨g, cap, cur, rfl, hb, hg, hn, hm, hc, ht⟩
  · exact absurd (List.eq_nil_of_length_eq_zero h0) hne
  · refine ⟨g, cap, rfl, hb, (Array.getElem?_eq_some_iff.1 hg).1, hn, hm, fun j u hj => ?_⟩; rw [cell_of_row _ _ _ _ _ (0, 0) hg]; rw [← ht, List.getElem?_take] at hj
    split at hj
    · simpa using hj
    · cases hj
theorem OwnF.shape {w : World} {base : Nat} {v : Value} {l : List Fld} (h : OwnF w base v l) : ∃ A cap, v = .slice A l.length cap ∧ l.length ≤ cap := by
  rcases h.2 with ⟨rfl, h0⟩ | ⟨g, cap, cur, rfl, hb, hg, hn, hm, hc, ht⟩
  · exact ⟨none, 0, by rw [h0], by omega⟩
  · exact ⟨_, cap, rfl, hn⟩
theorem fldCells_take (l : List Fld) (k : Nat) : fldCells (l.take k) = (fldCells l).take (k * 2) := by
  have e : fldCells l = fldCells (l.take k) ++ fldCells (l.drop k) := by rw [← fldCells_append, List.take_append_drop]
  by_cases h : k ≤ l.length
  · have hl : (fldCells (l.take k)).length = k * 2 := by rw [fldCells_length, List.length_take]; omega
    rw [e, ← hl, List.take_left]
  · rw [List.take_of_length_le (by omega), List.take_of_length_le (by rw [fldCells_length]; omega)]
theorem fldCells_drop (l : List Fld) (k : Nat) : fldCells (l.drop k) = (fldCells l).drop (k * 2) := by
  have e : fldCells l = fldCells (l.take k) ++ fldCells (l.drop k) := by rw [← fldCells_append, List.take_append_drop]
  by_cases h : k ≤ l.length
  · have hl : (fldCells (l.take k)).length = k * 2 := by rw [fldCells_length, List.length_take]; omega
    rw [e, ← hl, List.drop_left]
  · rw [List.drop_eq_nil_of_le (by omega), List.drop_eq_nil_of_le (by rw [fldCells_length]; omega)]; rfl
theorem fldCells_one (l : List Fld) : ∀ u ∈ fldCells l, u.oneCell' = true := by
  intro u hu; unfold fldCells at hu; obtain ⟨f, _, hf⟩ := List.mem_flatMap.1 hu; simp only [List.mem_cons, List.mem_nil_iff, or_false] at hf
  rcases hf with rfl | rfl <;> rfl
theorem run_append_empty (ty : TypeId) (w : World) (B A : Option Addr) (n cap c : Nat) (h : n ≤ cap) :
    (Builtin.append_ #[40, 40] ty #[.slice B n cap, .slice A 0 c]).run Tryz.prog w = .ok (.slice B n cap) w := by
  have hk := Tryz.underlying40; obtain ⟨i0, hi0, _⟩ := info_parts infoFld; have hl : ∀ w', (Builtin.lenOf (.slice A 0 c)).run Tryz.prog w' = .ok 0 w' := fun _ => rfl
  have hc : ∀ size, (Builtin.firstCells size 0 (.slice A 0 c)).run Tryz.prog w = .ok #[] w := fun size => by
    cases A with
    | none => exact run_firstCells_none w size 0 0 c
    | some a => exact run_firstCells_some w size 0 a 0 c [] (by simp) (fun j u h => by simp at h)
  cases B <;> simp [Builtin.append_, run_underlying hk, sizeOf, typeInfo, hi0, hl, h, hc, storeCells]
theorem wpList_flds {W w0 : World} {ops : Array Oper} {rest : List Oper} {o : Oper} {a : Act} {Q : Exit → Act → World → Prop} (s x : Operand) (hgd : o.guard = none)
    (ho : o.op = .call { callee := .builtin .append, args := #[s, x], argTypes := #[40, 40] }) (v : Value) (l k : List Fld) (hs : a.eval s = v) (hown : OwnF w0 W.heap.size v l) (hX : Ext W w0)
    (A : Option Addr) (n c : Nat) (hx : a.eval x = .slice A n c) (hn : k.length = n) (hA : k ≠ [] → ∃ ad, A = some ad ∧ ∀ j u, (fldCells k)[j]? = some u → w0.cell? (ad.add j) = some u) (hlen : l.length + k.length < 100000)
    (h : ∀ v' w', OwnF w' W.heap.size v' (l ++ k) → Ext W w' → wpList Tryz.prog ops Q rest (a.put o.dst v') w') : wpList Tryz.prog ops Q (o :: rest) a w0 := by
  by_cases hk : k = []
  · subst hk; obtain rfl : 0 = n := hn; obtain ⟨B, cap, rfl, hle⟩ := hown.shape; refine wpList_plain hgd fun K hK => ?_
    have hr := run_append_empty o.type w0 B A l.length cap c hle; unfold Oper.wp execOp; simp only [ho, resolve, invoke, builtin, Sem.run_bind, Sem.run_pure, Result.andThen_ok, List.map_toArray, List.map_cons, List.map_nil, hs, hx, hr]; exact hK _ _ (h _ _ (by rw [List.append_nil]; exact hown) hX)
  · obtain ⟨ad, rfl, hcells⟩ := hA hk; obtain ⟨i0, hi0, hz0, hz1, hz2⟩ := info_parts infoFld; have hk0 : 0 < k.length := List.length_pos_iff.2 hk; subst hn; refine wpList_append_lies _ hgd s x 40 ho W.heap.size 67 i0 _ 2 24 Tryz.underlying40 hi0 hz0 hz1 hz2 rfl (by decide) v l.length (fldCells l) hs hown ad k.length c (fldCells k) hx (fldCells_length k) hcells
      (fldCells_one k) hk0 (by simp only [maxLen]; omega) (by omega) hX.size _ rfl ?_
    intro g c w9 hown9 hg9 hat9 hlt9; refine h _ w9 ?_ (Ext.grown' hX hg9 hX.size (fun k hk => hown.block hk)); unfold OwnF; rw [fldCells_append, List.length_append]; exact hown9
def cutAt (g l cap s : Nat) : Option Addr := if cap = l then some ⟨g, 0, none⟩ else some ⟨g, l * s, none⟩
theorem sliced_cut (g l h cap s : Nat) : sliced (some ⟨g, 0, none⟩) l h cap s = .slice (cutAt g l cap s) (h - l) (cap - l) := by
  unfold sliced cutAt
  split
  · rfl
  · have e : (⟨g, 0, none⟩ : Addr).add (l * s) = ⟨g, l * s, none⟩ := by unfold Addr.add; split <;> simp_all
    simp [e]
def haltG (p : Prop) : Prop := p
theorem halt_in {p : Prop} (h : haltG p) : p := h
theorem halt_go {p : Prop} (h : p) : haltG p := h
theorem cutAt_says {w : World} {g l cap n : Nat} {L k : List Fld} (hc : ∀ j u, (fldCells L)[j]? = some u → w.cell? ⟨g, j, none⟩ = some u) (hk : k = (L.drop l).take n) (hL : L.length ≤ cap) (hne : k ≠ []) :
    ∃ ad, cutAt g l cap 2 = some ad ∧ ∀ j u, (fldCells k)[j]? = some u → w.cell? (ad.add j) = some u := by
  have hlt : l < L.length := by
    refine Nat.lt_of_not_le fun h => hne ?_
    rw [hk, List.drop_eq_nil_of_le h, List.take_nil]
  unfold cutAt; rw [if_neg (by omega)]; refine ⟨_, rfl, fun j u hj => ?_⟩; rw [hk, fldCells_take, fldCells_drop, List.getElem?_take] at hj
  split at hj
  · rw [List.getElem?_drop] at hj; have := hc _ _ hj; have e : (⟨g, l * 2, none⟩ : Addr).add j = ⟨g, l * 2 + j, none⟩ := by unfold Addr.add; split <;> simp_all
    rw [e]; exact this
  · cases hj
theorem headAt_says {w : World} {g n : Nat} {L k : List Fld} (hc : ∀ j u, (fldCells L)[j]? = some u → w.cell? ⟨g, j, none⟩ = some u) (hk : k = L.take n) :
    ∃ ad, (some ⟨g, 0, none⟩ : Option Addr) = some ad ∧ ∀ j u, (fldCells k)[j]? = some u → w.cell? (ad.add j) = some u := by
  refine ⟨_, rfl, fun j u hj => ?_⟩; rw [hk, fldCells_take, List.getElem?_take] at hj
  split at hj
  · have e : (⟨g, 0, none⟩ : Addr).add j = ⟨g, j, none⟩ := by unfold Addr.add; split <;> simp_all
    rw [e]; exact hc _ _ hj
  · cases hj
theorem cut0_says {w : World} {g cap n : Nat} {L k : List Fld} (hc : ∀ j u, (fldCells L)[j]? = some u → w.cell? ⟨g, j, none⟩ = some u) (hk : k = L.take n) (hL : L.length ≤ cap) (hne : k ≠ []) :
    ∃ ad, cutAt g 0 cap 2 = some ad ∧ ∀ j u, (fldCells k)[j]? = some u → w.cell? (ad.add j) = some u := cutAt_says (n := n) hc (by simpa using hk) hL hne
def turnedL (l : List Fld) (i k : Nat) (x : Fld) : List Fld := ((l.take i ++ l.drop (i + 1)).take k ++ [x]) ++ (l.take i ++ l.drop (i + 1)).drop k
theorem turned_perm {l : List Fld} {i k : Nat} (hi : i < l.length) : (turnedL l i k l[i]).Perm l := by
  unfold turnedL; have h1 : (((l.take i ++ l.drop (i + 1)).take k ++ [l[i]]) ++ (l.take i ++ l.drop (i + 1)).drop k).Perm (l[i] :: ((l.take i ++ l.drop (i + 1)).take k ++ (l.take i ++ l.drop (i + 1)).drop k)) := by
    rw [List.append_assoc]; exact List.perm_middle
  rw [List.take_append_drop] at h1; have h2 : (l[i] :: (l.take i ++ l.drop (i + 1))).Perm (l.take i ++ l[i] :: l.drop (i + 1)) := List.perm_middle.symm; have h3 : l.take i ++ l[i] :: l.drop (i + 1) = l := by rw [← List.drop_eq_getElem_cons hi, List.take_append_drop]
  rw [h3] at h2; exact h1.trans h2
theorem turned_head {l : List Fld} {i k : Nat} (hi : 1 ≤ i) (hi2 : i < l.length) (hk : 1 ≤ k) : (turnedL l i k l[i]).head? = l.head? := by
  obtain ⟨i, rfl⟩ : ∃ j, i = j + 1 := ⟨i - 1, by omega⟩
  obtain ⟨k, rfl⟩ : ∃ j, k = j + 1 := ⟨k - 1, by omega⟩
  cases l with
  | nil => simp at hi2
  | cons f r => rfl
attribute [local go_sem ↓] sliced_cut
theorem turned_calls (l : List Fld) (v : Value) (w : World) (base i k : Nat) (hi : i < l.length) (hk : k < l.length) (hl : l.length ≤ 2000) (hl2 : 2 ≤ l.length) (hF : OwnF w base v l) :
    Calls Tryz.prog 22 #[v, .int .i64 i, .int .i64 k] w fun e w' => ∃ v', e = .returned v' ∧ OwnF w' w.heap.size v' (turnedL l i k l[i]) ∧ Ext w w' := by
  obtain ⟨g, cap, rfl, hb, hgl, hcap, hcm, hcells⟩ := hF.form (by rintro rfl; simp at hi); obtain ⟨⟨t, s⟩, hts⟩ : ∃ f, l[i] = f := ⟨_, rfl⟩
  have hat := fldCells_at l i hi; rw [hts] at hat ⊢; have q0 := hcells _ _ hat.1; have q1 := hcells _ _ hat.2; have HC := Lib.hid hcells; obtain ⟨L, hL⟩ : ∃ n, l.length = n := ⟨_, rfl⟩
  rw [hL] at hi hk hl hl2 hcap ⊢; have HL := Lib.hid hL; have HCAP := Lib.hid hcap; have HG := Lib.hid hgl; obtain ⟨R, hR⟩ : ∃ q, l.take i ++ l.drop (i + 1) = q := ⟨_, rfl⟩
  have hRl : R.length = L - 1 := by rw [← hR, List.length_append, List.length_take, List.length_drop]; omega
  have HR := Lib.hid hR; have HRL := Lib.hid hRl; have HREST : RowKit.Hid (turnedL l i k (t, s) = (R.take k ++ [(t, s)]) ++ R.drop k) := Lib.hid (by rw [← hR]; rfl); rw [HREST.out]; have HI : RowKit.Hid (i < L ∧ k < L ∧ L ≤ 2000 ∧ 2 ≤ L) := Lib.hid ⟨hi, hk, hl, hl2⟩; have hcap2 : (cap : Int) ≤ 9223372036854775807 := by have : maxLen = 9223372036854775807 := rfl; omega
  have hi1 : (i : Int) < (L : Int) := by omega
  have hi2 : (i : Int) + 1 ≤ (L : Int) := by omega
  have hi3 : (L : Int) ≤ (cap : Int) := by omega
  clear hF hat hcells hL hR hRl hts hb hcm
  go_enter Tryz.func22, Tryz.ntmps22
  go_wp2_with (at_builtin; refine halt_in ?_); have hb1 := heap_alloc_new w (.cells #[.int .i64 t, .string ⟨s.toArray⟩] 67); have hx1 : Ext w (w.alloc (.cells #[.int .i64 t, .string ⟨s.toArray⟩] 67)) := (Ext.refl _).alloc _; generalize w.alloc (.cells #[.int .i64 t, .string ⟨s.toArray⟩] 67) = w1 at hb1 hx1 ⊢; have HX1 := Lib.hid hx1; have HB1 := Lib.hid hb1; have HC1 : RowKit.Hid (∀ w2, Ext w1 w2 → ∀ (j : Nat) (u : Value), (fldCells l)[j]? = some u → w2.cell? ⟨g, j, none⟩ = some u) := Lib.hid (fun w2 h j u hj => (HX1.out.trans h).cell (HC.out j u hj)); clear hb1 hx1 q0 q1; refine halt_go ?_; go_wp2_with (first | (at_builtin; refine wpList_flds (W := w1) (.tmp 14) (.tmp 17) rfl rfl _ [] (l.take i) rfl (OwnF.nil _ _) (Ext.refl _) _ _ _ rfl (by have := HI.out; have := HL.out; simp; omega) (by first | exact cut0_says (n := i) (HC1.out _ (Ext.refl _)) rfl (by have := HCAP.out; have := HL.out; omega) | exact fun _ => headAt_says (HC1.out _ (Ext.refl _)) rfl) (by have := HI.out; have := HL.out; simp; omega) ?_; intro v2 w2 hown2 hx2; have HO2 := Lib.hid hown2; have HX2 := Lib.hid hx2; clear hown2 hx2) | (at_builtin; refine halt_in ?_)); rw [List.nil_append] at HO2; refine halt_go ?_
  go_wp2_with (first | (at_builtin; refine wpList_flds (W := w1) (.tmp 19) (.tmp 23) rfl rfl _ _ (l.drop (i + 1)) rfl HO2.out HX2.out _ _ _ rfl (by have := HI.out; have := HL.out; simp; omega) (cutAt_says (n := l.length) (HC1.out _ HX2.out) (List.take_of_length_le (by rw [List.length_drop]; omega)).symm (by have := HCAP.out; have := HL.out; omega)) (by have := HI.out; have := HL.out; simp; omega) ?_; intro v3 w3 hown3 hx3; have HO3 := Lib.hid hown3; have HX3 := Lib.hid hx3; clear hown3 hx3; refine halt_in ?_) | (at_builtin; refine halt_in ?_)); rw [HR.out] at HO3; obtain ⟨g3, cap3, rfl, _, hgl3, hc3, hm3, hcs3⟩ := HO3.out.form (by rintro rfl; have := HRL.out; have := HI.out; simp at *; omega); rw [HRL.out] at HO3 hc3 ⊢; have HCS3 := Lib.hid hcs3; have HC3 := Lib.hid hc3; have hk3 : (k : Int) ≤ ((L - 1 : Nat) : Int) := by have := HI.out; omega
  have hk4 : ((L - 1 : Nat) : Int) ≤ (cap3 : Int) := by omega
  have hk5 : (k : Int) ≤ (cap3 : Int) := by omega
  have hm4 : (cap3 : Int) ≤ 9223372036854775807 := by have : maxLen = 9223372036854775807 := rfl; omega
  have HBX := Lib.hid (HX3.out.heap HB1.out); have HXW := Lib.hid (HX1.out.trans HX3.out); have hsz := HXW.out.size; have hb3 := HBX.out; obtain ⟨hq, _⟩ := blk_facts hb3; have q0 := hq 0; have q1 := hq 1; simp at q0 q1; have HQ := Lib.hid (And.intro q0 q1); obtain ⟨M, hM⟩ : ∃ M, L - 1 = M := ⟨_, rfl⟩
  rw [hM] at HO3 hc3 hk3 hk4 HC3 HRL ⊢; have HM := Lib.hid hM; clear hcs3 hc3 hm3 hgl3 hb3 hq hM q0 q1; refine halt_go ?_; go_wp2_with (first | (at_builtin; refine wpList_flds (W := w3) (.tmp 25) (.tmp 28) rfl rfl _ [] (R.take k) rfl (OwnF.nil _ _) (Ext.refl _) _ _ _ rfl (by have := HI.out; have := HRL.out; have := HM.out; simp; omega) (cut0_says (n := k) HCS3.out rfl (by have := HC3.out; have := HRL.out; omega)) (by have := HI.out; have := HRL.out; have := HM.out; simp; omega) ?_; intro v4 w4 hown4 hx4; have HO4 := Lib.hid hown4; have HX4 := Lib.hid hx4; clear hown4 hx4; refine halt_in ?_) | (at_builtin; refine halt_in ?_)); rw [List.nil_append] at HO4; have q0 := HX4.out.cell HQ.out.1; have q1 := HX4.out.cell HQ.out.2; have HL4 : RowKit.Hid ((R.take k).length < 100000) := Lib.hid (by have := HI.out; have := HRL.out; have := HM.out; simp; omega); refine halt_go ?_; go_wp2_with (first | (at_builtin; refine wpList_fld (W := w3) (.tmp 30) (.tmp 32) rfl rfl _ (R.take k) rfl HO4.out HX4.out t s rfl HL4.out ?_; intro v5 w5 hown5 hx5; have HO5 := Lib.hid hown5; have HX5 := Lib.hid hx5; clear hown5 hx5; refine halt_in ?_) | (at_builtin; refine halt_in ?_)); have HC5 : RowKit.Hid (∀ (j : Nat) (u : Value), (fldCells R)[j]? = some u → w5.cell? ⟨g3, j, none⟩ = some u) := Lib.hid (fun j u hj => HX5.out.cell (HCS3.out j u hj)); refine halt_go ?_
  go_wp2_with (first | (at_builtin; refine wpList_flds (W := w3) (.tmp 34) (.tmp 37) rfl rfl _ _ (R.drop k) rfl HO5.out HX5.out _ _ _ rfl (by have := HI.out; have := HRL.out; have := HM.out; simp; omega) (cutAt_says (n := R.length) HC5.out (List.take_of_length_le (by rw [List.length_drop]; omega)).symm (by have := HC3.out; have := HRL.out; omega)) (by have := HI.out; have := HRL.out; have := HM.out; simp; omega) ?_; intro v6 w6 hown6 hx6; have HO6 := Lib.hid hown6; have HX6 := Lib.hid hx6; clear hown6 hx6) | (at_builtin; refine halt_in ?_)); go_ret; exact ⟨_, rfl, HO6.out.more hsz, HXW.out.trans HX6.out⟩
end
end Go.Proofs.YtdmjinlgdkgoiaaGreatDoor
