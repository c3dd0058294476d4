/- Of the layer fix: Open. -/
import Derived.Test.YtdmjinlgdkgoiaaGreatDoorFbAc
import Derived.ProofKit
import Derived.ChangeSame
import Derived.ChangeSlices
import Derived.SizedLaws
import Derived.Test.YtdmjinlgdkgoiaaGreatDoorRows
set_option linter.unusedVariables false
set_option linter.unusedSimpArgs false
namespace Go.Proofs.YtdmjinlgdkgoiaaGreatDoor
section
open Go Go.ChangeShapes Go.WideShapes Go.ChangeAt Go.RowKit
set_option maxRecDepth 100000
def flatB (P : Program) (t : TypeId) (ts : List Ty) : Bool := match P.underlying t with
  | some (.struct fs) => fs.size == ts.length && P.cellsOf t == ts.length && (List.range ts.length).all fun i => match fs[i]?, ts[i]? with
    | some f, some ty => f.offset == i && P.cellsOf f.type == 1 && (match ty, P.underlying f.type with
      | .I, some (.int .i64) => true
      | .S, some .string => true
      | .B, some .bool => true
      | _, _ => false)
    | _, _ => false
  | _ => false
def toCell : Value → Cell
  | .int _ n => .I n
  | .string s => .S s.data.toList
  | .bool b => .B b
  | _ => .B false
section
variable {H : Type} {enc : TypeId × Value → H} {P : Program} {w : World} {base : Nat} {spare : Nat → Bool} {held : Bool}
theorem open_flat {t : TypeId} {ts : List Ty} (hb : flatB P t ts = true) {fuel : Nat} {cs : List Value} {d : DataW H} {p : List MemPlace} (h : DataW.trod enc P w base spare held fuel t cs = some (d, p))
    (hw : ∀ n ∈ d.weights P t, n ≤ 140737488355328) : ∃ m : Msg, m.map Cell.ty = ts ∧ m.all Cell.ok = true ∧ m.map Cell.v = cs := by
  unfold flatB at hb
  cases hu : P.underlying t with
  | none => rw [hu] at hb; cases hb
  | some u =>
    rw [hu] at hb
    cases u with
    | struct fs =>
      simp only [Bool.and_eq_true, beq_iff_eq] at hb; obtain ⟨⟨h1, h2⟩, h3⟩ := hb; obtain ⟨xs, n, rfl, hx, hlen, hxl, hf⟩ := DataW.trod_struct hu h; simp only [Prod.mk.injEq] at hx; obtain ⟨hd, _⟩ := hx; have key : ∀ i, i < ts.length → ∃ (c : Cell), cs[i]? = some c.v ∧ ts[i]? = some c.ty ∧ c.ok = true := by
        intro i hi; have h4 := List.all_eq_true.1 h3 i (by simpa using hi); have hfi : i < fs.size := by omega
        have e1 : fs[i]? = some fs[i] := by simp [hfi]
        have e2 : ts[i]? = some ts[i] := by simp [hi]
        rw [e1, e2] at h4; simp only [Bool.and_eq_true, beq_iff_eq] at h4; obtain ⟨⟨o1, o2⟩, o3⟩ := h4; have h5 := hf i _ e1; have hxi : i < xs.length := by omega
        have hci : i < cs.length := by omega
        have e3 : (cs.drop fs[i].offset).take (P.cellsOf fs[i].type) = [cs[i]] := by
          rw [o1, o2, List.drop_eq_getElem_cons hci]; rfl
        have e4 : xs[i]? = some xs[i] := by simp [hxi]
        rw [e3, e4] at h5; have e5 : cs[i]? = some cs[i] := by simp [hci]
        cases hty : ts[i] with
        | I =>
          rw [hty] at o3
          cases hui : P.underlying fs[i].type with
          | none => rw [hui] at o3; cases o3
          | some v =>
            rw [hui] at o3
            cases v <;> first | (exact absurd o3 Bool.false_ne_true) | skip
            rename_i k
            cases k <;> first | (exact absurd o3 Bool.false_ne_true) | skip
            obtain ⟨z, hz, _, hwf⟩ := DataW.trod_int hui h5; have hz1 : cs[i] = .int .i64 z := by simpa using hz
            refine ⟨.I z, by rw [e5, hz1]; rfl, by rw [e2, hty]; rfl, ?_⟩; have : (decide (-9223372036854775808 ≤ z) && decide (z ≤ 9223372036854775807)) = true := hwf; exact this
        | S =>
          rw [hty] at o3
          cases hui : P.underlying fs[i].type with
          | none => rw [hui] at o3; cases o3
          | some v =>
            rw [hui] at o3
            cases v <;> first | (exact absurd o3 Bool.false_ne_true) | skip
            obtain ⟨s, hs, hx2, _⟩ := DataW.trod_string hui h5; have hs1 : cs[i] = .string s := by simpa using hs
            refine ⟨.S s.data.toList, by rw [e5, hs1]; rfl, by rw [e2, hty]; rfl, ?_⟩; have hmem : s.data.toList.length ∈ d.weights P t := by
              rw [hd]; have hw1 : DataW.weights P t (.agg (xs.map (·.1))) = DataW.weightsEach P (fs.toList.map (·.type)) (xs.map (·.1)) := by simp [DataW.weights, hu]
              rw [hw1]; refine DataW.weights_mem_each (P := P) (j := i) (t := (fs[i]).type) (d := .lit (.string s.data.toList)) ?_ ?_ _ (by simp [DataW.weights])
              · simp [hfi]
              · simp [hxi, hx2]
            have := hw _ hmem
            simpa [Cell.ok] using this
        | B =>
          rw [hty] at o3
          cases hui : P.underlying fs[i].type with
          | none => rw [hui] at o3; cases o3
          | some v =>
            rw [hui] at o3
            cases v <;> first | (exact absurd o3 Bool.false_ne_true) | skip
            obtain ⟨b, hs, _⟩ := DataW.trod_bool hui h5; have hs1 : cs[i] = .bool b := by simpa using hs
            exact ⟨.B b, by rw [e5, hs1]; rfl, by rw [e2, hty]; rfl, rfl⟩
      have hlc : cs.length = ts.length := by omega
      have hback : ∀ c : Cell, toCell c.v = c := fun c => by cases c <;> rfl
      refine ⟨cs.map toCell, ?_, ?_, ?_⟩
      · apply List.ext_getElem?
        intro i
        by_cases hi : i < ts.length
        · obtain ⟨c, k1, k2, k3⟩ := key i hi
          simp [k1, k2, hback]
        · rw [List.getElem?_eq_none (by simp; omega), List.getElem?_eq_none (by omega)]
      · rw [List.all_eq_true]; intro c hc; obtain ⟨v, hv, rfl⟩ := List.mem_map.1 hc; obtain ⟨i, hi, e⟩ := List.getElem_of_mem hv; obtain ⟨c, k1, k2, k3⟩ := key i (by omega); have : cs[i]? = some v := by rw [← e]; simp
        rw [k1] at this; rw [← Option.some.inj this, hback]; exact k3
      · apply List.ext_getElem?
        intro i
        by_cases hi : i < ts.length
        · obtain ⟨c, k1, k2, k3⟩ := key i hi
          simp [k1, hback]
        · rw [List.getElem?_eq_none (by simp; omega), List.getElem?_eq_none (by omega)]
    | _ => exact absurd hb Bool.false_ne_true
end
theorem flat23 : flatB Tryz.prog 23 tys = true := by kernel_rfl
theorem isStr23 : ∃ fs, Tryz.prog.underlying 23 = some (.struct fs) := ⟨_, Tryz.underlying23⟩
theorem open_msg {H : Type} {enc : TypeId × Value → H} {W : World} {base : Nat} {v : Value} {d : DataW H} {p : List MemPlace} (hv : Value.okWide Tryz.prog W .any base 23 v) (h : DataW.Trod enc Tryz.prog W 0 (fun _ => true) true 23 v d p)
    (hw : ∀ n ∈ d.weights Tryz.prog 23, n ≤ 140737488355328) : ∃ m, WT m ∧ v = .agg (msgV m) := by
  obtain ⟨fs, hfs⟩ := isStr23; obtain ⟨cs, rfl, _⟩ := okWide_struct hfs hv; obtain ⟨fuel, hf⟩ := h; obtain ⟨m, h1, h2, h3⟩ := open_flat flat23 hf hw; refine ⟨m, ⟨h1, h2⟩, ?_⟩; have : (msgV m).toList = cs.toList := h3; rw [← Array.toList_inj.1 this]
end
end Go.Proofs.YtdmjinlgdkgoiaaGreatDoor
