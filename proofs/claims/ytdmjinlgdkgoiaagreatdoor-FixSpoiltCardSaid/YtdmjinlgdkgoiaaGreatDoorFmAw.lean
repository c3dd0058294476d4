/- Of the layer fix: Turned. -/
import Derived.Test.YtdmjinlgdkgoiaaGreatDoorFmAl
import Derived.Test.YtdmjinlgdkgoiaaGreatDoorFmAn
import Derived.Test.YtdmjinlgdkgoiaaGreatDoorFmAs
set_option linter.unusedVariables false
set_option linter.unusedSimpArgs false
set_option maxRecDepth 100000
namespace Go.Proofs.YtdmjinlgdkgoiaaGreatDoor
section
open Go Go.RowKit
set_option maxHeartbeats 6400000
attribute [local go_sem] ba_get
def pickOf (c n : Int) : Int := (if c < 0 then -(c + 1) else c).tmod n
theorem pickOf_lt {c n : Int} (h : 0 < n) : 0 ≤ pickOf c n ∧ pickOf c n < n := by
  unfold pickOf; split
  · rw [Int.tmod_eq_emod_of_nonneg (by omega)]; exact ⟨Int.emod_nonneg _ (by omega), Int.emod_lt_of_pos _ h⟩
  · rw [Int.tmod_eq_emod_of_nonneg (by omega)]; exact ⟨Int.emod_nonneg _ (by omega), Int.emod_lt_of_pos _ h⟩
theorem pick_calls (c n : Int) (w : World) (h1 : -9223372036854775808 ≤ c) (h2 : c ≤ 9223372036854775807) (hn : 0 < n) (hn2 : n ≤ 9223372036854775807) :
    Calls Tryz.prog 21 #[.int .i64 c, .int .i64 n] w fun e w' => e = .returned (.int .i64 (pickOf c n)) ∧ w' = w := by
  have hp := pickOf_lt (c := c) hn; obtain ⟨p, hpe⟩ : ∃ p, pickOf c n = p := ⟨_, rfl⟩
  rw [hpe] at hp ⊢; unfold pickOf at hpe; obtain ⟨hp1, hp2⟩ := hp; have hnz : (n == 0) = false := by simp; omega
  by_cases h0 : c < 0
  · rw [if_pos h0] at hpe; have hq : (-(c + 1)).tmod n = p := hpe; go_enter Tryz.func21, Tryz.ntmps21
    go_wp2; go_ret; exact ⟨rfl, rfl⟩
  · rw [if_neg h0] at hpe; go_enter Tryz.func21, Tryz.ntmps21
    go_wp2; go_ret; exact ⟨rfl, rfl⟩
theorem OwnF.form {w : World} {base : Nat} {v : Value} {l : List Fld} (h : OwnF w base v l) (hne : l ≠ []) :
    ∃ g cap, v = .slice (some ⟨g, 0, none⟩) l.length cap ∧ base ≤ g ∧ g < w.heap.size ∧ l.length ≤ cap ∧ cap ≤ maxLen ∧ ∀ j u, (fldCells l)[j]? = some u → w.cell? ⟨g, j, none⟩ = some u := by
  rcases h.2 with ⟨_, h0⟩ | ⟨g, cap, cur, rfl, hb, hg, hn, hm, hc, ht⟩
  · exact absurd (List.eq_nil_of_length_eq_zero h0) hne
  · refine ⟨g, cap, rfl, hb, (Array.getElem?_eq_some_iff.1 hg).1, hn, hm, fun j u hj => ?_⟩; rw [cell_of_row _ _ _ _ _ (0, 0) hg]; rw [← ht, List.getElem?_take] at hj; split at hj
    · simpa using hj
    · cases hj
theorem OwnF.shape {w : World} {base : Nat} {v : Value} {l : List Fld} (h : OwnF w base v l) : ∃ A cap, v = .slice A l.length cap ∧ l.length ≤ cap := by
  rcases h.2 with ⟨rfl, h0⟩ | ⟨g, cap, cur, rfl, hb, hg, hn, hm, hc, ht⟩
  · exact ⟨none, 0, by rw [h0], by omega⟩
  · exact ⟨_, cap, rfl, hn⟩
theorem fldCells_take (l : List Fld) (k : Nat) : fldCells (l.take k) = (fldCells l).take (k * 2) := by
  have e : fldCells l = fldCells (l.take k) ++ fldCells (l.drop k) := by rw [← fldCells_append, List.take_append_drop]
  by_cases h : k ≤ l.length
  · have hl : (fldCells (l.take k)).length = k * 2 := by rw [fldCells_length, List.length_take]; omega
    rw [e, ← hl, List.take_left]
  · rw [List.take_of_length_le (by omega), List.take_of_length_le (by rw [fldCells_length]; omega)]
theorem fldCells_drop (l : List Fld) (k : Nat) : fldCells (l.drop k) = (fldCells l).drop (k * 2) := by
  have e : fldCells l = fldCells (l.take k) ++ fldCells (l.drop k) := by rw [← fldCells_append, List.take_append_drop]
  by_cases h : k ≤ l.length
  · have hl : (fldCells (l.take k)).length = k * 2 := by rw [fldCells_length, List.length_take]; omega
    rw [e, ← hl, List.drop_left]
  · rw [List.drop_eq_nil_of_le (by omega), List.drop_eq_nil_of_le (by rw [fldCells_length]; omega)]; rfl
theorem fldCells_one (l : List Fld) : ∀ u ∈ fldCells l, u.oneCell' = true := by
  intro u hu; unfold fldCells at hu; obtain ⟨f, _, hf⟩ := List.mem_flatMap.1 hu; simp only [List.mem_cons, List.mem_nil_iff, or_false] at hf; rcases hf with rfl | rfl <;> rfl
theorem run_append_empty (ty : TypeId) (w : World) (B A : Option Addr) (n cap c : Nat) (h : n ≤ cap) :
    (Builtin.append_ #[40, 40] ty #[.slice B n cap, .slice A 0 c]).run Tryz.prog w = .ok (.slice B n cap) w := by
  have hk := Tryz.underlying40; obtain ⟨i0, hi0, _⟩ := info_parts infoFld; have hl : ∀ w', (Builtin.lenOf (.slice A 0 c)).run Tryz.prog w' = .ok 0 w' := fun _ => rfl
  have hc : ∀ size, (Builtin.firstCells size 0 (.slice A 0 c)).run Tryz.prog w = .ok #[] w := fun size => by
    cases A with
    | none => exact run_firstCells_none w size 0 0 c
    | some a => exact run_firstCells_some w size 0 a 0 c [] (by simp) (fun j u h => by simp at h)
  cases B <;> simp [Builtin.append_, run_underlying hk, sizeOf, typeInfo, hi0, hl, h, hc, storeCells]
theorem wpList_flds {W w0 : World} {ops : Array Oper} {rest : List Oper} {o : Oper} {a : Act} {Q : Exit → Act → World → Prop} (s x : Operand) (hgd : o.guard = none)
    (ho : o.op = .call { callee := .builtin .append, args := #[s, x], argTypes := #[40, 40] }) (v : Value) (l k : List Fld) (hs : a.eval s = v) (hown : OwnF w0 W.heap.size v l) (hX : Ext W w0)
    (A : Option Addr) (n c : Nat) (hx : a.eval x = .slice A n c) (hn : k.length = n) (hA : k ≠ [] → ∃ ad, A = some ad ∧ ∀ j u, (fldCells k)[j]? = some u → w0.cell? (ad.add j) = some u) (hlen : l.length + k.length < 100000)
    (h : ∀ v' w', OwnF w' W.heap.size v' (l ++ k) → Ext W w' → wpList Tryz.prog ops Q rest (a.put o.dst v') w') : wpList Tryz.prog ops Q (o :: rest) a w0 := by
  by_cases hk : k = []
  · subst hk; obtain rfl : 0 = n := hn; obtain ⟨B, cap, rfl, hle⟩ := hown.shape; refine wpList_plain hgd fun K hK => ?_
    have hr := run_append_empty o.type w0 B A l.length cap c hle; unfold Oper.wp execOp; simp only [ho, resolve, invoke, builtin, Sem.run_bind, Sem.run_pure, Result.andThen_ok, List.map_toArray, List.map_cons, List.map_nil, hs, hx, hr]; exact hK _ _ (h _ _ (by rw [List.append_nil]; exact hown) hX)
  · obtain ⟨ad, rfl, hcells⟩ := hA hk; obtain ⟨i0, hi0, hz0, hz1, hz2⟩ := info_parts infoFld; have hk0 : 0 < k.length := List.length_pos_iff.2 hk; subst hn; refine wpList_append_lies _ hgd s x 40 ho W.heap.size 67 i0 _ 2 24 Tryz.underlying40 hi0 hz0 hz1 hz2 rfl (by decide) v l.length (fldCells l) hs hown ad k.length c (fldCells k) hx (fldCells_length k) hcells
      (fldCells_one k) hk0 (by simp only [maxLen]; omega) (by omega) hX.size _ rfl ?_
    intro g c w9 hown9 hg9 hat9 hlt9; refine h _ w9 ?_ (Ext.grown' hX hg9 hX.size (fun k hk => hown.block hk)); unfold OwnF; rw [fldCells_append, List.length_append]; exact hown9
def cutAt (g l cap s : Nat) : Option Addr := if cap = l then some ⟨g, 0, none⟩ else some ⟨g, l * s, none⟩
theorem sliced_cut (g l h cap s : Nat) : sliced (some ⟨g, 0, none⟩) l h cap s = .slice (cutAt g l cap s) (h - l) (cap - l) := by
  unfold sliced cutAt; split
  · rfl
  · have e : (⟨g, 0, none⟩ : Addr).add (l * s) = ⟨g, l * s, none⟩ := by unfold Addr.add; split <;> simp_all
    simp [e]
def haltG (p : Prop) : Prop := p
theorem halt_in {p : Prop} (h : haltG p) : p := h
theorem halt_go {p : Prop} (h : p) : haltG p := h
theorem cutAt_says {w : World} {g l cap n : Nat} {L k : List Fld} (hc : ∀ j u, (fldCells L)[j]? = some u → w.cell? ⟨g, j, none⟩ = some u) (hk : k = (L.drop l).take n) (hL : L.length ≤ cap) (hne : k ≠ []) :
    ∃ ad, cutAt g l cap 2 = some ad ∧ ∀ j u, (fldCells k)[j]? = some u → w.cell? (ad.add j) = some u := by
  have hlt : l < L.length := by
    refine Nat.lt_of_not_le fun h => hne ?_
    rw [hk, List.drop_eq_nil_of_le h, List.take_nil]
  unfold cutAt; rw [if_neg (by omega)]; refine ⟨_, rfl, fun j u hj => ?_⟩; rw [hk, fldCells_take, fldCells_drop, List.getElem?_take] at hj; split at hj
  · rw [List.getElem?_drop] at hj; have := hc _ _ hj; have e : (⟨g, l * 2, none⟩ : Addr).add j = ⟨g, l * 2 + j, none⟩ := by unfold Addr.add; split <;> simp_all
    rw [e]; exact this
  · cases hj
theorem cut0_says {w : World} {g cap n : Nat} {L k : List Fld} (hc : ∀ j u, (fldCells L)[j]? = some u → w.cell? ⟨g, j, none⟩ = some u) (hk : k = L.take n) (hL : L.length ≤ cap) (hne : k ≠ []) :
    ∃ ad, cutAt g 0 cap 2 = some ad ∧ ∀ j u, (fldCells k)[j]? = some u → w.cell? (ad.add j) = some u := cutAt_says (n := n) hc (by simpa using hk) hL hne
attribute [local go_sem ↓] sliced_cut
end
end Go.Proofs.YtdmjinlgdkgoiaaGreatDoor
