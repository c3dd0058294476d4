/- Of the layer fix: NeMsg. -/
import Derived.Test.YtdmjinlgdkgoiaaGreatDoorFmAc
set_option linter.unusedVariables false
set_option linter.unusedSimpArgs false
set_option maxRecDepth 100000
namespace Go.Proofs.YtdmjinlgdkgoiaaGreatDoor
section
open Go Go.RowKit
set_option maxHeartbeats 3200000
theorem names_plain : ((Tryz.prog.fieldsOf 23).toList.all fun f => f.name != "_") = true := by kernel_rfl
theorem offs_all : ((Tryz.prog.fieldsOf 23).toList.map (·.offset)) = List.range 42 := by kernel_rfl
theorem eqFields_any {m n : Msg} (hm : WT m) (hn : WT n) (d : Nat) (w : World) : ∀ fs : List Field, (fs.all fieldFits) = true → (fs.all fun f => f.name != "_") = true →
    (Op.eqFields (d + 1) (msgV m) (msgV n) fs).run Tryz.prog w = .ok (decide (∀ f ∈ fs, m[f.offset]? = n[f.offset]?)) w
  | [], _, _ => by simp [Op.eqFields]
  | f :: fs, h, hname => by
    rw [List.all_cons, Bool.and_eq_true] at h hname; have ih := eqFields_any hm hn d w fs h.2 hname.2; have hf := h.1; have hnm : f.name ≠ "_" := by simpa using hname.1
    unfold fieldFits at hf; rw [Bool.and_eq_true] at hf; obtain ⟨hp, hf⟩ := hf; have hv : (msgV m)[f.offset]? = (m[f.offset]?).map Cell.v := by unfold msgV; simp
    have hv2 : (msgV n)[f.offset]? = (n[f.offset]?).map Cell.v := by unfold msgV; simp
    have ht : (m[f.offset]?).map Cell.ty = tys[f.offset]? := by rw [← hm.1]; simp
    have ht2 : (n[f.offset]?).map Cell.ty = tys[f.offset]? := by rw [← hn.1]; simp
    have key : ∀ c c' : Cell, m[f.offset]? = some c → n[f.offset]? = some c' → (∀ w', (Op.equalIn (d + 1) f.type c.v c'.v).run Tryz.prog w' = .ok (decide (c = c')) w') →
        (Op.eqFields (d + 1) (msgV m) (msgV n) (f :: fs)).run Tryz.prog w = .ok (decide (∀ g ∈ f :: fs, m[g.offset]? = n[g.offset]?)) w := by
      intro c c' h1 h2 h3; rw [h1] at hv; rw [h2] at hv2; unfold Op.eqFields; rw [if_pos hnm]; simp only [Sem.run_bind, run_part_plain w hp hv, run_part_plain w hp hv2, Result.andThen_ok, h3]; by_cases hc : c = c'
      · subst hc; simp only [decide_true, Bool.not_true, Bool.false_eq_true, if_false]; rw [ih]; congr 1
        simp [h1, h2]
      · simp only [hc, decide_false, Bool.not_false, if_true, Sem.run_pure]; congr 1
        simp [h1, h2, hc]
    cases hc : m[f.offset]? with
    | none =>
      rw [hc] at ht; rw [← ht] at hf; split at hf <;> simp_all
    | some c =>
      cases hc2 : n[f.offset]? with
      | none =>
        rw [hc2] at ht2; rw [← ht2] at hf; split at hf <;> simp_all
      | some c' =>
        rw [hc] at ht; rw [hc2] at ht2; refine key c c' hc hc2 (fun w' => ?_); rw [← ht] at hf ht2; split at hf
        · rename_i k hu e
          cases c <;> simp [Cell.ty] at e
          cases c' <;> simp [Cell.ty] at ht2
          rename_i x y
          refine (run_equalIn_int w' d f.type .i64 k _ _ hu).trans ?_; congr 1
          by_cases hxy : x = y <;> simp [hxy]
        · rename_i hu e
          cases c <;> simp [Cell.ty] at e
          cases c' <;> simp [Cell.ty] at ht2
          rename_i x y
          refine (run_equalIn_string w' d f.type _ _ hu).trans ?_; congr 1
          rw [ByteArray.toList_eq, ByteArray.toList_eq]; by_cases hxy : x = y <;> simp [hxy]
        · rename_i hu e
          cases c <;> simp [Cell.ty] at e
          cases c' <;> simp [Cell.ty] at ht2
          rename_i x y
          refine (run_equalIn_bool' w' d f.type _ _ hu).trans ?_; congr 1
          cases x <;> cases y <;> rfl
        · cases hf
theorem offs_say {m n : Msg} (hm : WT m) (hn : WT n) : (∀ f ∈ (Tryz.prog.fieldsOf 23).toList, m[f.offset]? = n[f.offset]?) ↔ m = n := by
  constructor
  · intro h; apply List.ext_getElem?
    intro i; by_cases hi : i < 42
    · have : i ∈ (Tryz.prog.fieldsOf 23).toList.map (·.offset) := by rw [offs_all]; simpa using hi
      obtain ⟨f, hf, rfl⟩ := List.mem_map.1 this; exact h f hf
    · rw [List.getElem?_eq_none (by rw [hm.length]; omega), List.getElem?_eq_none (by rw [hn.length]; omega)]
  · rintro rfl _ _; rfl
theorem neMsg {m n : Msg} (hm : WT m) (hn : WT n) (w : World) : (binOp .neq 23 (.agg (msgV m)) (.agg (msgV n))).run Tryz.prog w = .ok (.bool (decide (m ≠ n))) w := by
  have h : (binOp .neq 23 (.agg (msgV m)) (.agg (msgV n))).run Tryz.prog w = ((Op.equalIn 10000 23 (.agg (msgV m)) (.agg (msgV n))).run Tryz.prog w).andThen fun b w' => .ok (.bool (!b)) w' := by
    simp only [binOp]; simp [Op.equal, Op.maxDepth]
  rw [h, run_equalIn_agg w 9999 23 _ _ (by kernel_rfl) (by kernel_rfl), eqFields_any hm hn 9998 w _ fields_fit names_plain]; have e : (decide (∀ f ∈ (Tryz.prog.fieldsOf 23).toList, m[f.offset]? = n[f.offset]?)) = decide (m = n) := by
    rw [decide_eq_decide]; exact offs_say hm hn
  rw [e]; simp
end
end Go.Proofs.YtdmjinlgdkgoiaaGreatDoor
