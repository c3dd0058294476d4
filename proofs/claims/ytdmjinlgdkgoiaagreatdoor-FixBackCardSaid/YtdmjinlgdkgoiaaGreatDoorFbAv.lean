/- Of the layer fix: Decode, Fault, Shown, Takes, Row, RowTakes, RowTakes2. -/
import Derived.Test.YtdmjinlgdkgoiaaGreatDoorFbAc
import Derived.Test.YtdmjinlgdkgoiaaGreatDoorFbAo
import Derived.Test.YtdmjinlgdkgoiaaGreatDoorFbAu
import Derived.Handed
import Derived.Lib.LaidTab
import Derived.LaidLaws
import Derived.MakeChecks
import Derived.Test.YtdmjinlgdkgoiaaGreatDoorTie
import Derived.ProofKit
import Derived.ChangeSame
import Derived.ChangeSlices
import Derived.LaidMore
import Derived.OpenShut
import Derived.Carry
import Derived.JoinedOf
import Derived.Stop.Joined
import Derived.Lay
import Derived.SizedLaws
set_option linter.unusedVariables false
set_option linter.unusedSimpArgs false
namespace Go.Proofs.YtdmjinlgdkgoiaaGreatDoor
section
open Go Go.RowKit
set_option maxHeartbeats 6400000
set_option maxRecDepth 100000
theorem buildMsg0 (w : World) : (Instr.build 23 #[]).run Tryz.prog w = .ok (.agg (msgV noMsg)) w := run_build w 23 #[] _ (by kernel_rfl)
theorem wp_build0 {o : Oper} {a : Act} {w : World} {K : Act → World → Prop} {Q : Exit → Act → World → Prop} (ho : o.op = .build 23 #[]) (h : K (a.put o.dst (.agg (msgV noMsg))) w) : o.wp Tryz.prog a w K Q := by
  refine wp_build 23 #[] ho (by kernel_rfl) ?_; have e : (Tryz.prog.built 23 ((#[] : Array (Nat × Operand)).map fun (i, x) => (i, a.eval x)).toList).getD #[] = msgV noMsg := by kernel_rfl
  rw [e]; exact h
attribute [local go_sem ↓] loadVarMsg buildMsg0
attribute [local go_sem] ba_get loadRowMsg rowOf_new rowOf_old rowOf_drew
@[irreducible] def Stop (p : Prop) : Prop := p
theorem stop_region {P : Program} {id : Nat} {ops : Array Oper} {Q : Exit → Act → World → Prop} {a : Act} {w : World} (h : Stop ((Code.region id ops true).wp P Q a w)) : (Code.region id ops true).wp P Q a w := by unfold Stop at h; exact h
theorem stop_go {p : Prop} (h : p) : Stop p := by unfold Stop; exact h
theorem fieldsTell_count {s : List UInt8} {stop : Nat} : ∀ (fuel k : Nat) (acc l : List Fld), fieldsTell s stop fuel k acc = .inl l → l.length ≤ acc.length + fuel
  | 0, k, acc, l, h => by rw [← Sum.inl.inj h]; exact Nat.le_refl _
  | fuel + 1, k, acc, l, h => by
    unfold fieldsTell at h
    split at h
    · rw [← Sum.inl.inj h]; omega
    · split at h
      · cases h
      · have := fieldsTell_count fuel _ _ l h; simp only [List.length_append, List.length_cons, List.length_nil] at this; omega
theorem split_count {s : List UInt8} {l : List Fld} (h : split s = .inl l) : l.length ≤ 1025 := by
  have h0 := (split_len h).1; unfold split at h
  split at h
  · cases h
  · split at h
    · cases h
    · split at h
      · cases h
      · split at h
        · cases h
        · have := fieldsTell_count _ _ _ _ h; simp only [List.length_nil] at this; omega
theorem run_storeIn {wk : World} {g : Nat} {m : Msg} {old : Array Value} (hm : WT m) (hg : wk.heap[g]? = some (.cells old 23)) (ho : old.size = 42) : (storeCells ⟨g, 0, none⟩ (msgV m).toList).run Tryz.prog wk = .ok () (wk.setRow g (msgV m)) := by
  have hs := msgV_size hm; have h1 := oneCells hm; have := run_storeCells_at Tryz.prog g 0 23 (msgV m).toList 0 old wk hg (by simp only [Array.length_toList]; omega) (fun v hv => (Array.all_eq_true_iff_forall_mem.1 h1) v (by simpa using hv)); rw [this]
  congr 2
  have h2 : old.toList.drop (0 + 0 + (msgV m).toList.length) = [] := List.drop_eq_nil_of_le (by simp only [Array.length_toList]; omega); rw [h2]
  simp
theorem Ext.setRow' {W w : World} (h : Ext W w) {g : Nat} (hg : W.heap.size ≤ g) (cs : Array Value) : Ext W (w.setRow g cs) :=
  ⟨h.os, h.tape, h.output, by rw [setRow_size]; exact h.size, fun k hk => (heap_setRow_ne (by omega)).trans (h.block k hk)⟩
def decodeSays (W w' : World) (e : Ending) : Msg ⊕ (Int × Int) → Prop
  | .inr f => ∃ v, e = .returned (.tuple #[.agg (msgV noMsg), .iface 84 v]) ∧ FaultAt W w' v f.1 f.2
  | .inl m => e = .returned (.tuple #[.agg (msgV m), .nilIface])
theorem rowOf_blk {w : World} {g : Nat} {cs : Array Value} {t : TypeId} (h : w.heap[g]? = some (.cells cs t)) : rowOf w g = cs := by unfold rowOf; rw [h]
theorem results_row_tmp {P : Program} {fn : Func} {p q : Tmp} {ty : TypeId} (h : fn.results = #[.cell p ty, .tmp q]) (tmps : Array Value) (w : World) {g : Nat} {t : TypeId} {cs : Array Value} {fr : Nat × Nat} {d : TypeDesc} {v : Value}
    (hg : w.heap[g]? = some (.cells cs t fr)) (hu : P.underlying ty = some d) (hd : isRows d = true) (hi : (P.info? ty).map (·.size) = some cs.size)
    (hp : tmps[p]?.getD undef = .pointer (some ⟨g, 0, none⟩)) (hq : tmps[q]?.getD undef = v) : (results fn tmps).run P w = .ok (.tuple #[.agg cs, v]) w := by
  have k1 := run_loadVar_row w g t ty cs fr d hg hu (by cases d <;> first | rfl | (exact absurd hd (by simp [isRows]))) hi
  simp [results, h, hp, hq, asAddr, k1]
def Rl.Post.set {g : Nat} {c : Obj} : (Turn g c).Post := ⟨fun _ w => w.heap[g]? = some c ∧ g < w.heap.size, fun v w w' ⟨h2, h3⟩ hr => ⟨(hr.one h3).elim (fun h => h.trans h2) id, Nat.lt_of_lt_of_le h3 hr.size⟩⟩
def NewFault (W w : World) (g : Nat) (v : Value) (a e : Int) : Prop := ∃ b, v = .pointer (some ⟨b, 0, none⟩) ∧ W.heap.size ≤ b ∧ b ≠ g ∧ w.heap[b]? = some (.cells #[.int .i64 a, .int .i64 e] 86)
theorem NewFault.turn {W w w' : World} {g : Nat} {c : Obj} {v : Value} {a e : Int} (h : NewFault W w g v a e) (hr : TurnR g c w w') : NewFault W w' g v a e := by
  obtain ⟨b, e1, h1, h2, h3⟩ := h; exact ⟨b, e1, h1, h2, (hr.block b (Array.getElem?_eq_some_iff.1 h3).1 h2).trans h3⟩
theorem NewFault.at {W w : World} {g : Nat} {v : Value} {a e : Int} (h : NewFault W w g v a e) : FaultAt W w v a e := by
  obtain ⟨b, e1, h1, h2, h3⟩ := h; exact ⟨b, e1, h1, h3⟩
def Rl.Post.ptr {g : Nat} {c : Obj} (W : World) (a e : Int) : (Turn g c).Post := ⟨fun v w => NewFault W w g v a e, fun v w w' h hr => h.turn hr⟩
def Rl.Post.fault {g : Nat} {c : Obj} (W : World) (a e : Int) : (Turn g c).Post := ⟨fun v w => ∃ x, v = .iface 84 x ∧ NewFault W w g x a e, fun v w w' ⟨x, e1, h⟩ hr => ⟨x, e1, h.turn hr⟩⟩
theorem gives_build0 {dst : Option Tmp} {tyo : TypeId} {pos : String} {after : Array Edge} {gd : Option (Nat × Bool)} {ρ : Operand → Value} {w : World} {R : Value → World → Prop} (h : R (.agg (msgV noMsg)) w) :
    Gives Tryz.prog { dst, op := .build 23 #[], type := tyo, pos, after, guard := gd } ρ w R := by
  unfold Gives; have e : (execOp ρ { dst, op := .build 23 #[], type := tyo, pos, after, guard := gd }).run Tryz.prog w = .ok (.value (.agg (msgV noMsg))) w := by kernel_rfl
  rw [e]; exact h
theorem gives_turn {dst : Option Tmp} {x y : Operand} {tyo : TypeId} {pos : String} {after : Array Edge} {gd : Option (Nat × Bool)} {ρ : Operand → Value} {g : Nat} {M : Msg} {old : Array Value} {w0 w : World} (hr : TurnR g (.cells (msgV M) 23) w0 w)
    (hx : ρ x = .pointer (some ⟨g, 0, none⟩)) (hy : ρ y = .agg (msgV M)) (hM : WT M) (hg : w0.heap[g]? = some (.cells old 23)) (ho : old.size = 42 := by rfl) :
    Gives Tryz.prog { dst, op := .store 23 x y, type := tyo, pos, after, guard := gd } ρ w (fun v w' => TurnR g (.cells (msgV M) 23) w w' ∧ w'.heap[g]? = some (.cells (msgV M) 23) ∧ g < w'.heap.size) := by
  have hlt := (Array.getElem?_eq_some_iff.1 hg).1; have hs := msgV_size hM; have key : ∀ old : Array Value, old.size = 42 → w.heap[g]? = some (.cells old 23) → Gives Tryz.prog { dst, op := .store 23 x y, type := tyo, pos, after, guard := gd } ρ w (fun v w' => TurnR g (.cells (msgV M) 23) w w' ∧ w'.heap[g]? = some (.cells (msgV M) 23) ∧ g < w'.heap.size) := by
    intro old ho hb; refine gives_store g (msgV M) old 23 hx hy hb (by rw [hs]; kernel_rfl) (by rw [ho, hs]) (oneCells hM) ⟨⟨rfl, rfl, rfl, by rw [setRow_size]; exact Nat.le_refl _, fun k h1 h2 => heap_setRow_ne h2, fun _ => Or.inr (heap_setRow hb)⟩, heap_setRow hb, ?_⟩; rw [setRow_size]; exact Nat.lt_of_lt_of_le hlt hr.size
  rcases hr.one hlt with h | h
  · exact key _ ho (h.trans hg)
  · exact key _ hs h
theorem decode_ret {w1 : World} {a' : Act} {g : Nat} {m : Msg} {v : Value} {R : Ending → World → Prop} (hm : WT m) (h2 : w1.heap[g]? = some (.cells (msgV m) 23)) (e2 : a'.eval (.tmp 2) = .pointer (some ⟨g, 0, none⟩)) (e3 : a'.eval (.tmp 3) = v) (hd : a'.defers = [])
    (hR : R (.returned (.tuple #[.agg (msgV m), v])) w1) : bodyPost Tryz.prog Tryz.f17 R .ret a' w1 := by
  obtain ⟨d, hd1, hd2⟩ := isStruct23; have hs := msgV_size hm; exact bodyPost_ret (results_row_tmp rfl a'.tmps w1 h2 hd1 hd2 (by rw [hs]; kernel_rfl) (by simpa [Act.eval] using e2) (by simpa [Act.eval] using e3)) hd hR
theorem decode_calls (s : List UInt8) (A : Option Addr) (cap : Nat) (w : World) (hE : Env w) (hs : s.length ≤ 140737488355328) (hcap : s.length ≤ cap) (hcap2 : cap ≤ 9223372036854775807) (hb : Reads w A s) :
    Calls Tryz.prog 17 #[.slice A s.length cap] w fun e w' => decodeSays w w' e (decode s) ∧ Ext w w' := by
  obtain ⟨R, hR⟩ : ∃ R, decode s = R := ⟨_, rfl⟩
  rw [hR]; unfold decode at hR; have hX1 : Ext w (w.alloc (.cells (msgV noMsg) 23)) := (Ext.refl w).alloc _; have hn1 := heap_alloc_new w (.cells (msgV noMsg) 23); have hsplit := split_calls s A cap (w.alloc (.cells (msgV noMsg) 23)) (hE.ext hX1) hs hcap hcap2 (hb.ext hX1); have hsz1 : (w.alloc (.cells (msgV noMsg) 23)).heap.size = w.heap.size + 1 := by simp
  have hw5 : ∀ w5 : World, Ext w5 ((w5.alloc (.cells (msgV noMsg) 23)).alloc (.cells #[.int .i64 0, .int .i64 0, .int .i64 0] 81)) ∧ ((w5.alloc (.cells (msgV noMsg) 23)).alloc (.cells #[.int .i64 0, .int .i64 0, .int .i64 0] 81)).heap[w5.heap.size]? = some (.cells (msgV noMsg) 23) ∧
      ((w5.alloc (.cells (msgV noMsg) 23)).alloc (.cells #[.int .i64 0, .int .i64 0, .int .i64 0] 81)).heap[w5.heap.size + 1]? = some (.cells #[.int .i64 0, .int .i64 0, .int .i64 0] 81) := fun w5 =>
    ⟨((Ext.refl _).alloc _).alloc _, ((Ext.refl _).alloc _).heap (heap_alloc_new w5 _), by
      have := heap_alloc_new (w5.alloc (.cells (msgV noMsg) 23)) (.cells #[.int .i64 0, .int .i64 0, .int .i64 0] 81)
      simpa using this⟩
  have hsz0 : (msgV noMsg).size = 42 := by decide
  have hzero : msgV noMsg = #[.int .i64 0, .string ⟨#[]⟩, .string ⟨#[]⟩, .int .i64 0, .bool false, .int .i64 0, .int .i64 0, .int .i64 0, .bool false, .string ⟨#[]⟩, .int .i64 0, .int .i64 0, .int .i64 0, .bool false, .int .i64 0, .int .i64 0, .int .i64 0, .int .i64 0, .string ⟨#[]⟩, .string ⟨#[]⟩, .string ⟨#[]⟩, .string ⟨#[]⟩, .string ⟨#[]⟩, .int .i64 0, .int .i64 0, .int .i64 0, .int .i64 0, .int .i64 0, .int .i64 0, .int .i64 0, .int .i64 0, .int .i64 0, .int .i64 0, .int .i64 0, .int .i64 0, .int .i64 0, .int .i64 0, .int .i64 0, .int .i64 0, .int .i64 0, .int .i64 0, .int .i64 0] := rfl; rw [hzero] at hw5; have HSZ0 := Lib.hid hsz0; have HW5 := Lib.hid hw5; have HSPLIT := Lib.hid hsplit; have HX1 := Lib.hid hX1; have HN1 := Lib.hid hn1; have HSZ1 := Lib.hid hsz1; have HE := Lib.hid hE; have HNOW : RowKit.Hid (WT noMsg) := Lib.hid (by decide); clear hX1 hn1 hb hE hsplit hsz1 hw5 hsz0 hzero
  rcases hsp : split s with l | f
  · have HSP := Lib.hid hsp; rw [hsp] at HSPLIT hR; dsimp only at hR; obtain ⟨L, hL⟩ : ∃ n, s.length = n := ⟨_, rfl⟩
    rw [hL] at HSPLIT hs hcap ⊢; clear hsp hL
    go_enter Tryz.func17, Tryz.ntmps17
    go_wp2_with fail; refine HSPLIT.out.mono ?_; rintro e w2 ⟨⟨v, rfl, hown⟩, hE2⟩; have HX2 := Lib.hid (HX1.out.trans hE2); have HN2 := Lib.hid (hE2.heap HN1.out); have HREAD := Lib.hid (fixRead_calls v l w2 (HE.out.ext HX2.out) hown.reads (by have := split_count HSP.out; omega) (fun f hf => by have := split_len HSP.out; have := this.2 f hf; omega)); obtain ⟨⟨M, f1, f2, f3⟩, hx⟩ : ∃ x, readAll l = x := ⟨_, rfl⟩
    rw [hx] at HREAD hR; clear hx hown hE2 HX1 HN1 HSPLIT; go_wp2_with fail; refine HREAD.out.mono ?_; rintro e w5 ⟨rfl, hE5, hwt⟩; unfold flawV; dsimp only at hwt hR ⊢; have hwt : WT M := hwt; have HX5 := Lib.hid (HX2.out.trans hE5); have HN5 := Lib.hid (hE5.heap HN2.out); have HWT := Lib.hid hwt; have hsz := msgV_size hwt; go_wp2_with fail; obtain ⟨hA1, hb6, hb6f⟩ := HW5.out w5; generalize hWW : ((w5.alloc (.cells #[.int .i64 0, .string ⟨#[]⟩, .string ⟨#[]⟩, .int .i64 0, .bool false, .int .i64 0, .int .i64 0, .int .i64 0, .bool false, .string ⟨#[]⟩, .int .i64 0, .int .i64 0, .int .i64 0, .bool false, .int .i64 0, .int .i64 0, .int .i64 0, .int .i64 0, .string ⟨#[]⟩, .string ⟨#[]⟩, .string ⟨#[]⟩, .string ⟨#[]⟩, .string ⟨#[]⟩, .int .i64 0, .int .i64 0, .int .i64 0, .int .i64 0, .int .i64 0, .int .i64 0, .int .i64 0, .int .i64 0, .int .i64 0, .int .i64 0, .int .i64 0, .int .i64 0, .int .i64 0, .int .i64 0, .int .i64 0, .int .i64 0, .int .i64 0, .int .i64 0, .int .i64 0] 23)).alloc (.cells #[.int .i64 0, .int .i64 0, .int .i64 0] 81)) = w6 at hA1 hb6 hb6f ⊢; clear hWW; rw [run_storeIn hwt hb6 rfl]; have hX6 := HX5.out.trans hA1; have hN6 := hA1.heap HN5.out; have hlt : w.heap.size < w5.heap.size := (Array.getElem?_eq_some_iff.1 HN5.out).1; have hX7 := hX6.setRow' (g := w5.heap.size) (by omega) (msgV M); have hN7 := (heap_setRow_ne (cells := msgV M) (g := w5.heap.size) (by omega)).trans hN6; have hb7 := heap_setRow (cells := msgV M) hb6
    have hb7f := (heap_setRow_ne (cells := msgV M) (g := w5.heap.size) (by omega)).trans hb6f; obtain ⟨hq, hz⟩ := blk_facts hb7f; have q0 := hq 0; have q1 := hq 1; have q2 := hq 2; have z0 := hz 0; have z1 := hz 1; have z2 := hz 2; simp only [List.getElem?_toArray, List.getElem?_cons_zero, List.getElem?_cons_succ] at q0 q1 q2; have hle : w.heap.size ≤ w5.heap.size + 1 := by omega
    have hX8 := ((hX7.setCell (p := ⟨w5.heap.size + 1, 0, none⟩) hle (.int .i64 f1)).setCell (p := ⟨w5.heap.size + 1, 1, none⟩) hle (.int .i64 f2)).setCell (p := ⟨w5.heap.size + 1, 2, none⟩) hle (.int .i64 f3); have hne : ∀ k, k ≠ w5.heap.size + 1 → ∀ (t : World), ((((t.setCell ⟨w5.heap.size + 1, 0, none⟩ (.int .i64 f1)).setCell ⟨w5.heap.size + 1, 1, none⟩ (.int .i64 f2)).setCell ⟨w5.heap.size + 1, 2, none⟩ (.int .i64 f3))).heap[k]? = t.heap[k]? := fun k hk t => by
      rw [Below.heap_setCell _ _ _ _ hk, Below.heap_setCell _ _ _ _ hk, Below.heap_setCell _ _ _ _ hk]
    have hN8 := (hne _ (by omega) _).trans hN7; have hb8 := (hne _ (by omega) _).trans hb7; have hb8f := set_blk (o := 2) (u := .int .i64 f3) (set_blk (o := 1) (u := .int .i64 f2) (set_blk (o := 0) (u := .int .i64 f1) hb7f)); obtain ⟨hr, _⟩ := blk_facts hb8f; have r0 := hr 0; have r1 := hr 1; simp at r0 r1; have hrow := rowOf_blk hb8; have HX8 := Lib.hid hX8; have HN8 := Lib.hid hN8; have HB8 := Lib.hid hb8; have HR0 := Lib.hid r0; have HR1 := Lib.hid r1; have HLT := Lib.hid hlt; clear hA1 hb6 hX6 hN6 hb6f hX7 hN7 hb7 hb7f hq hz hX8 hne hN8 hb8 hb8f hr r1 HX5 HN5 HX2 HN2 HREAD
    by_cases h0 : f1 = 0
    · subst h0; have e : R = .inl M := by rw [← hR]; rfl
      subst e; clear hR; have hst2 := run_storeIn HWT.out HN8.out HSZ0.out; have HX9 := Lib.hid (Ext.setRow' HX8.out (g := w.heap.size) (Nat.le_refl _) (msgV M)); have HN9 := Lib.hid (heap_setRow (cells := msgV M) HN8.out); go_wp2; exact decode_ret HWT.out HN9.out (by rfl) (by rfl) (by rfl) ⟨rfl, HX9.out⟩
    · have h1 : (f1 != 0) = true := by simpa using h0
      have e : R = .inr (f2, f1) := by rw [← hR]; simp only [h1, if_true]
      subst e; clear hR; go_wp2_with (refine stop_region ?_); refine stop_go ?_; refine wp_region_rsteps (Turn w.heap.size (.cells (msgV noMsg) 23)) (fun _ => by kernel_rfl) [.is (.agg (msgV noMsg)), .is (.pointer (some ⟨w5.heap.size + 1, 1, none⟩)), .is (.int .i64 f2), .is (.pointer (some ⟨w5.heap.size + 1, 0, none⟩)), .is (.int .i64 f1), .is (.agg #[.int .i64 f2, .int .i64 f1]), .ptr w f2 f1, .fault w f2 f1, .set, .fault w f2 f1] (by kernel_rfl) ?_ ?_
      · refine And.intro ?_ (And.intro ?_ (And.intro ?_ (And.intro ?_ (And.intro ?_ (And.intro ?_ (And.intro ?_ (And.intro ?_ (And.intro ?_ (And.intro ?_ (True.intro))))))))))
        · intro ρ w' hE hB hD; clear hB hD; refine .inl ⟨rfl, ?_⟩; change Gives _ _ _ _ _; exact gives_build0 ⟨Rl.refl _ _, rfl⟩
        · intro ρ w' hE hB hD; have e7 : ρ (.tmp 7) = _ := hB (.tmp 7) rfl; clear hB hD; refine .inl ⟨rfl, ?_⟩; unfold Gives; go_simp
          first | done | exact yr1 | exact yr0 | exact yr2
        · intro ρ w' hE hB hD; have q := hE.cell HR1.out (by have := HLT.out; omega); have e26 : ρ (.tmp 26) = .pointer (some ⟨w5.heap.size + 1, 1, none⟩) := hD 1 26 rfl rfl; clear hB hD; refine .inl ⟨rfl, ?_⟩; unfold Gives; go_simp
          first | done | exact yr1 | exact yr0 | exact yr2
        · intro ρ w' hE hB hD; have e7 : ρ (.tmp 7) = _ := hB (.tmp 7) rfl; clear hB hD; refine .inl ⟨rfl, ?_⟩; unfold Gives; go_simp
          first | done | exact yr1 | exact yr0 | exact yr2
        · intro ρ w' hE hB hD; have q := hE.cell HR0.out (by have := HLT.out; omega); have e28 : ρ (.tmp 28) = .pointer (some ⟨w5.heap.size + 1, 0, none⟩) := hD 3 28 rfl rfl; clear hB hD; refine .inl ⟨rfl, ?_⟩; unfold Gives; go_simp
          first | done | exact yr1 | exact yr0 | exact yr2
        · intro ρ w' hE hB hD; have e27 : ρ (.tmp 27) = .int .i64 f2 := hD 2 27 rfl rfl; have e29 : ρ (.tmp 29) = .int .i64 f1 := hD 4 29 rfl rfl; clear hB hD; refine .inl ⟨rfl, ?_⟩; unfold Gives; go_simp
          first | done | exact yr1 | exact yr0 | exact yr2
        · intro ρ w' hE hB hD; have e30 : ρ (.tmp 30) = .agg #[.int .i64 f2, .int .i64 f1] := hD 5 30 rfl rfl; clear hB hD; refine .inl ⟨rfl, ?_⟩; unfold Gives; go_simp; exact ⟨TurnR.ofExt ((Ext.refl _).alloc _), w'.heap.size, rfl, by have := (hE.ext HX8.out (Nat.le_refl _)).size; omega, by have := HLT.out; have := hE.size; have := (Array.getElem?_eq_some_iff.1 HB8.out).1; omega, heap_alloc_new _ _⟩
        · intro ρ w' hE hB hD; have r31 := hD 6 31 rfl rfl; change Rl.Post.p (.ptr w f2 f1) _ _ at r31; clear hB hD; refine .inl ⟨rfl, ?_⟩; unfold Gives; obtain ⟨b, eb, h1, h2, h3⟩ := r31; have e31 := eb; go_simp; exact ⟨Rl.refl _ _, _, rfl, b, rfl, h1, h2, h3⟩
        · intro ρ w' hE hB hD; have e2 : ρ (.tmp 2) = _ := hB (.tmp 2) rfl; have e25 : ρ (.tmp 25) = .agg (msgV noMsg) := hD 0 25 rfl rfl; clear hB hD; refine .inl ⟨rfl, ?_⟩; exact gives_turn hE e2 e25 HNOW.out HN8.out
        · intro ρ w' hE hB hD; have r32 := hD 7 32 rfl rfl; change Rl.Post.p (.fault w f2 f1) _ _ at r32; clear hB hD; refine .inl ⟨rfl, ?_⟩; unfold Gives; obtain ⟨x, ex, hx⟩ := r32; have e32 := ex; go_simp; exact ⟨Rl.refl _ _, x, rfl, hx⟩
      · intro a' wz hE1 hd' hs' hB' hP' hN'; obtain ⟨_, b2⟩ := hN' 8 rfl; change Rl.Post.p Rl.Post.set _ _ at b2; have e2 := hB' (.tmp 2) rfl; have e3 := hP' 9 3 rfl; change Rl.Post.p (Rl.Post.fault w f2 f1) _ _ at e3; obtain ⟨v3, ev, hv⟩ := e3; clear hB' hP' hN' hs'; go_wp2; exact decode_ret HNOW.out b2.1 e2 ev hd' ⟨⟨v3, rfl, hv.at⟩, hE1.ext HX8.out (Nat.le_refl _)⟩
  · have HSP := Lib.hid hsp; rw [hsp] at HSPLIT hR; dsimp only at hR; subst hR; obtain ⟨at_, er⟩ := f; obtain ⟨L, hL⟩ : ∃ n, s.length = n := ⟨_, rfl⟩
    rw [hL] at HSPLIT hs hcap ⊢; clear hsp hL HSP
    go_enter Tryz.func17, Tryz.ntmps17
    go_wp2_with fail; refine HSPLIT.out.mono ?_; rintro e w2 ⟨⟨v, rfl, hv⟩, hE2⟩; have HX2 := Lib.hid (HX1.out.trans hE2); have hN2 := hE2.heap HN1.out; have HV := Lib.hid (hv.more HX1.out); have hst2 := run_storeIn HNOW.out hN2 HSZ0.out; have HX9 := Lib.hid (HX2.out.setRow' (g := w.heap.size) (Nat.le_refl _) (msgV noMsg)); have HN9 := Lib.hid (heap_setRow (cells := msgV noMsg) hN2); have hlt : w.heap.size < w2.heap.size := (Array.getElem?_eq_some_iff.1 hN2).1; have HV9 : RowKit.Hid (FaultAt w (w2.setRow w.heap.size (msgV noMsg)) v at_ er) := Lib.hid (by
      obtain ⟨g, e, h1, h2⟩ := hv.is; refine ⟨g, e, ?_, ?_⟩
      · have := HX1.out.size; omega
      · rw [heap_setRow_ne ?_]
        · exact h2
        · have := HSZ1.out; omega)
    clear hE2 hN2 hv HX1 HN1 HSPLIT; go_wp2_with fail; refine wp_build0 rfl ?_; go_wp2; exact decode_ret HNOW.out HN9.out (by rfl) (by rfl) (by rfl) ⟨⟨v, rfl, HV9.out⟩, HX9.out⟩
end
section
open Go Go.RowKit
set_option maxHeartbeats 6400000
set_option maxRecDepth 100000
theorem assert84 (v : Value) (w : World) : (Instr.typeAssert (.iface 84 v) 31 84 true).run Tryz.prog w = .ok (.tuple #[v, .bool true]) w := by kernel_rfl
attribute [local go_sem] assert84
theorem faultAt_calls (W w : World) (v : Value) (a e : Int) (hv : FaultAt W w v a e) (he : e ≠ 0) : Calls Tryz.prog 18 #[.iface 84 v] w fun r w' => r = .returned (.tuple #[.int .i64 a, .int .i64 e, .bool true]) ∧ Ext w w' := by
  obtain ⟨g, rfl, hg, hb⟩ := hv.is; obtain ⟨hq, _⟩ := blk_facts hb; have q0 := hq 0; have q1 := hq 1; simp at q0 q1; have h1 : (e != 0) = true := by simpa using he
  have Q0 := Lib.hid q0; have Q1 := Lib.hid q1; have H1 := Lib.hid h1; clear hv hb hq hg q0 q1 h1
  go_enter Tryz.func18, Tryz.ntmps18
  go_wp2_with fail; refine wp_region_steps (fun _ => by kernel_rfl) [.is (.pointer (some ⟨g, 0, none⟩)), .is (.pointer (some ⟨g, 0, none⟩)), .is (.pointer (some ⟨g, 0, none⟩)), .is (.int .i64 a), .is (.pointer (some ⟨g, 0, none⟩)), .is (.pointer (some ⟨g, 0, none⟩)), .is (.pointer (some ⟨g, 1, none⟩)), .is (.int .i64 e), .is (.pointer (some ⟨g, 0, none⟩)), .is (.pointer (some ⟨g, 0, none⟩)), .is (.pointer (some ⟨g, 1, none⟩)), .is (.int .i64 e), .is (.bool true), .is (.int .i64 a), .is (.int .i64 e), .is (.bool true)] (by kernel_rfl) ?_ ?_
  · refine And.intro ?_ (And.intro ?_ (And.intro ?_ (And.intro ?_ (And.intro ?_ (And.intro ?_ (And.intro ?_ (And.intro ?_ (And.intro ?_ (And.intro ?_ (And.intro ?_ (And.intro ?_ (And.intro ?_ (And.intro ?_ (And.intro ?_ (And.intro ?_ (True.intro))))))))))))))))
    · intro ρ w' hE hB hD; have e5 : ρ (.tmp 5) = _ := hB (.tmp 5) rfl; clear hB hD; refine .inl ⟨rfl, ?_⟩; unfold Gives; go_simp
      first | done | exact xr0 | exact xr1
    · intro ρ w' hE hB hD; have e20 : ρ (.tmp 20) = .pointer (some ⟨g, 0, none⟩) := hD 0 20 rfl rfl; clear hB hD; refine .inl ⟨rfl, ?_⟩; unfold Gives; go_simp
      first | done | exact xr0 | exact xr1
    · intro ρ w' hE hB hD; have e21 : ρ (.tmp 21) = .pointer (some ⟨g, 0, none⟩) := hD 1 21 rfl rfl; clear hB hD; refine .inl ⟨rfl, ?_⟩; unfold Gives; go_simp
      first | done | exact xr0 | exact xr1
    · intro ρ w' hE hB hD; have q0 := hE.cell Q0.out; have q1 := hE.cell Q1.out; have e22 : ρ (.tmp 22) = .pointer (some ⟨g, 0, none⟩) := hD 2 22 rfl rfl; clear hB hD; refine .inl ⟨rfl, ?_⟩; unfold Gives; go_simp
      first | done | exact xr0 | exact xr1
    · intro ρ w' hE hB hD; have e5 : ρ (.tmp 5) = _ := hB (.tmp 5) rfl; clear hB hD; refine .inl ⟨rfl, ?_⟩; unfold Gives; go_simp
      first | done | exact xr0 | exact xr1
    · intro ρ w' hE hB hD; have e24 : ρ (.tmp 24) = .pointer (some ⟨g, 0, none⟩) := hD 4 24 rfl rfl; clear hB hD; refine .inl ⟨rfl, ?_⟩; unfold Gives; go_simp
      first | done | exact xr0 | exact xr1
    · intro ρ w' hE hB hD; have e25 : ρ (.tmp 25) = .pointer (some ⟨g, 0, none⟩) := hD 5 25 rfl rfl; clear hB hD; refine .inl ⟨rfl, ?_⟩; unfold Gives; go_simp
      first | done | exact xr0 | exact xr1
    · intro ρ w' hE hB hD; have q0 := hE.cell Q0.out; have q1 := hE.cell Q1.out; have e26 : ρ (.tmp 26) = .pointer (some ⟨g, 1, none⟩) := hD 6 26 rfl rfl; clear hB hD; refine .inl ⟨rfl, ?_⟩; unfold Gives; go_simp
      first | done | exact xr0 | exact xr1
    · intro ρ w' hE hB hD; have e5 : ρ (.tmp 5) = _ := hB (.tmp 5) rfl; clear hB hD; refine .inl ⟨rfl, ?_⟩; unfold Gives; go_simp
      first | done | exact xr0 | exact xr1
    · intro ρ w' hE hB hD; have e28 : ρ (.tmp 28) = .pointer (some ⟨g, 0, none⟩) := hD 8 28 rfl rfl; clear hB hD; refine .inl ⟨rfl, ?_⟩; unfold Gives; go_simp
      first | done | exact xr0 | exact xr1
    · intro ρ w' hE hB hD; have e29 : ρ (.tmp 29) = .pointer (some ⟨g, 0, none⟩) := hD 9 29 rfl rfl; clear hB hD; refine .inl ⟨rfl, ?_⟩; unfold Gives; go_simp
      first | done | exact xr0 | exact xr1
    · intro ρ w' hE hB hD; have q0 := hE.cell Q0.out; have q1 := hE.cell Q1.out; have e30 : ρ (.tmp 30) = .pointer (some ⟨g, 1, none⟩) := hD 10 30 rfl rfl; clear hB hD; refine .inl ⟨rfl, ?_⟩; unfold Gives; go_simp
      first | done | exact xr0 | exact xr1
    · intro ρ w' hE hB hD; have ec : ∀ c, ρ (.const c) = c := fun c => hB (.const c) rfl
      have e31 : ρ (.tmp 31) = .int .i64 e := hD 11 31 rfl rfl; clear hB hD; refine .inl ⟨rfl, ?_⟩; unfold Gives; have h1 := H1.out; go_simp; exact ⟨Ext.refl _, rfl⟩
    · intro ρ w' hE hB hD; have e23 : ρ (.tmp 23) = .int .i64 a := hD 3 23 rfl rfl; clear hB hD; refine .inl ⟨rfl, ?_⟩; unfold Gives; go_simp
      first | done | exact xr0 | exact xr1
    · intro ρ w' hE hB hD; have e27 : ρ (.tmp 27) = .int .i64 e := hD 7 27 rfl rfl; clear hB hD; refine .inl ⟨rfl, ?_⟩; unfold Gives; go_simp
      first | done | exact xr0 | exact xr1
    · intro ρ w' hE hB hD; have e32 : ρ (.tmp 32) = .bool true := hD 12 32 rfl rfl; clear hB hD; refine .inl ⟨rfl, ?_⟩; unfold Gives; go_simp
      first | done | exact xr0 | exact xr1
  · intro a' w1 hE1 hd' hs' hB' hP'; have ha' := act_of_posts [(20, .pointer (some ⟨g, 0, none⟩)), (21, .pointer (some ⟨g, 0, none⟩)), (22, .pointer (some ⟨g, 0, none⟩)), (23, .int .i64 a), (24, .pointer (some ⟨g, 0, none⟩)), (25, .pointer (some ⟨g, 0, none⟩)), (26, .pointer (some ⟨g, 1, none⟩)), (27, .int .i64 e), (28, .pointer (some ⟨g, 0, none⟩)), (29, .pointer (some ⟨g, 0, none⟩)), (30, .pointer (some ⟨g, 1, none⟩)), (31, .int .i64 e), (32, .bool true), (2, .int .i64 a), (3, .int .i64 e), (4, .bool true)] hd' hs' hB' (by simp) (by kernel_rfl) (by
      intro p hp; simp only [List.mem_cons, List.mem_nil_iff, or_false] at hp
      rcases hp with rfl | rfl | rfl | rfl | rfl | rfl | rfl | rfl | rfl | rfl | rfl | rfl | rfl | rfl | rfl | rfl
      · exact hP' 0 20 rfl
      · exact hP' 1 21 rfl
      · exact hP' 2 22 rfl
      · exact hP' 3 23 rfl
      · exact hP' 4 24 rfl
      · exact hP' 5 25 rfl
      · exact hP' 6 26 rfl
      · exact hP' 7 27 rfl
      · exact hP' 8 28 rfl
      · exact hP' 9 29 rfl
      · exact hP' 10 30 rfl
      · exact hP' 11 31 rfl
      · exact hP' 12 32 rfl
      · exact hP' 13 2 rfl
      · exact hP' 14 3 rfl
      · exact hP' 15 4 rfl)
    clear hB' hP' hs' hd'; simp only [List.foldl_cons, List.foldl_nil, List.setIfInBounds_toArray, List.set_cons_succ, List.set_cons_zero] at ha'; subst ha'; go_wp2; exact bodyPost_ret (v := .tuple #[.int .i64 a, .int .i64 e, .bool true]) (by simp [results, Tryz.results18, go_sem]) rfl ⟨rfl, hE1⟩
def exParts : Array (Nat × Operand) := #[(0, .const (.int .i64 2)), (1, .const (.string ⟨#[65]⟩)), (2, .const (.string ⟨#[66]⟩)), (3, .const (.int .i64 7)), (5, .const (.int .i64 1709210096789)), (9, .const (.string ⟨#[120]⟩))]
theorem wp_buildEx {o : Oper} {a : Act} {w : World} {K : Act → World → Prop} {Q : Exit → Act → World → Prop} (ho : o.op = .build 23 exParts) (h : K (a.put o.dst (.agg (msgV example0))) w) : o.wp Tryz.prog a w K Q := by
  refine wp_build 23 exParts ho (by kernel_rfl) ?_; have e : (Tryz.prog.built 23 (exParts.map fun (i, x) => (i, a.eval x)).toList).getD #[] = msgV example0 := by kernel_rfl
  rw [e]; exact h
theorem example_calls (w : World) : Calls Tryz.prog 37 #[] w fun e w' => e = .returned (.agg (msgV example0)) ∧ Ext w w' := by
  go_enter Tryz.func37, Tryz.ntmps37
  go_wp2_with fail; refine wp_buildEx rfl ?_; go_wp2_with fail; have hsz := msgV_size example0_wt; rw [run_storeIn (g := w.heap.size) example0_wt (heap_alloc_new w _) rfl]; have hb := heap_setRow (cells := msgV example0) (heap_alloc_new w (.cells (msgV noMsg) 23)); have hX : Ext w ((w.alloc (.cells (msgV noMsg) 23)).setRow w.heap.size (msgV example0)) := ((Ext.refl w).alloc _).setRow' (Nat.le_refl _) _; go_wp2; obtain ⟨d, hd1, hd2⟩ := isStruct23; exact bodyPost_ret (results_cell_row rfl _ _ w.heap.size 23 (msgV example0) (0, 0) d (by rfl) hb hd1 (by cases d <;> first | rfl | (exact absurd hd2 (by simp [isRows]))) (by rw [hsz]; kernel_rfl)) rfl ⟨rfl, hX⟩
end
section
open Go Go.RowKit
set_option maxHeartbeats 6400000
set_option maxRecDepth 100000
attribute [local go_sem ↓] loadVarMsg
attribute [local go_sem] ba_get loadRowMsg rowOf_new rowOf_old rowOf_drew
theorem gives_eqEx {dst : Option Tmp} {x y : Operand} {tyo : TypeId} {pos : String} {after : Array Edge} {gd : Option (Nat × Bool)} {ρ : Operand → Value} {w : World} {R : Value → World → Prop}
    (hx : ρ x = .agg (msgV example0)) (hy : ρ y = .agg (msgV example0)) (h : R (.bool true) w) : Gives Tryz.prog { dst, op := .binOp .eql 23 x y 23, type := tyo, pos, after, guard := gd } ρ w R := by
  unfold Gives; have e : (execOp ρ { dst, op := .binOp .eql 23 x y 23, type := tyo, pos, after, guard := gd }).run Tryz.prog w = .ok (.value (.bool true)) w := by
    simp only [execOp, hx, hy]
    kernel_rfl
  rw [e]; exact h
theorem Own.readsB {w : World} {base : Nat} {v : Value} {s : List UInt8} (h : Own w base 5 v s) : ∃ g cap, v = .slice (some ⟨g, 0, none⟩) s.length cap ∧ s.length ≤ cap ∧ cap ≤ 9223372036854775807 ∧ Reads w (some ⟨g, 0, none⟩) s ∧ base ≤ g ∧ g < w.heap.size := by
  obtain ⟨g, cap, cur, fz, e, hb, hg, hfz, h1, h2, h3, h4⟩ := h.is; have h5 : cap ≤ 9223372036854775807 := Nat.le_trans h2 (by decide); refine ⟨g, cap, e, h1, h5, ⟨fun hp => ⟨⟨g, 0, none⟩, rfl, fun i hi => ?_⟩⟩, hb, (Array.getElem?_eq_some_iff.1 hg).1⟩; have := h.cells e i hi; have e2 : (⟨g, 0, none⟩ : Addr).add i = ⟨g, i, none⟩ := by simp only [Addr.add]; split <;> simp_all
  rw [e2]; exact this
theorem encode_example : encode example0 = (frameOf (fieldsOf example0), 0) ∧ (frameOf (fieldsOf example0)).length ≤ 1024 ∧ decode (frameOf (fieldsOf example0)) = .inl example0 := by
  have hv : (valid example0).1 = 0 := by rw [example0_valid]
  obtain ⟨h1, _, h3⟩ := encode_good example0_wt hv; have h4 := (decode_encode example0_wt hv).1; rw [h1] at h4; exact ⟨h1, h3, h4⟩
theorem shown_calls (w : World) (hE : Env w) : Calls Tryz.prog 14 #[] w fun e w' => e = .returned (.bool true) ∧ Ext w w' := by
  obtain ⟨h1, h2, h3⟩ := encode_example; obtain ⟨h4, h5⟩ := example0_frame; obtain ⟨fr, hfr⟩ : ∃ s, frameOf (fieldsOf example0) = s := ⟨_, rfl⟩
  rw [hfr] at h1 h2 h3 h4 h5; obtain ⟨N, hN⟩ : ∃ n, fr.length = n := ⟨_, rfl⟩
  have HENC := Lib.hid h1; have HDEC := Lib.hid h3; have HE := Lib.hid hE; have hwl : want0.length = 69 := rfl; rw [hwl] at h4; rw [hwl, hN] at h5; have HTAKE := Lib.hid h4; rw [hN] at h2; have HNN := Lib.hid hN; have HN := Lib.hid (And.intro h5 h2); clear h1 h2 h3 h4 h5 hfr hE hwl hN
  go_enter Tryz.func14, Tryz.ntmps14
  go_wp2_with fail; refine (example_calls _).mono ?_; rintro e w1 ⟨rfl, hE1⟩; have HE1 := Lib.hid hE1; clear hE1; go_wp2_with fail; refine (encode_calls example0 example0_wt _ (HE.out.ext HE1.out)).mono ?_; rw [HENC.out]; rintro e w2 ⟨⟨v, rfl, hown⟩, hE2⟩; have hown : Own w2 _ 5 v fr := hown; obtain ⟨g, cap, rfl, hc1, hc2, hrd, hbg, hgl⟩ := hown.readsB; have HE2 := Lib.hid (HE1.out.trans hE2); have HRF := Lib.hid hrd; have HDC := Lib.hid (decode_calls fr (some ⟨g, 0, none⟩) cap w2 (HE.out.ext HE2.out) (by have := HNN.out; have := HN.out; omega) hc1 hc2 hrd); rw [HDEC.out, HNN.out] at HDC; rw [HNN.out] at hc1 ⊢; have HCAP : RowKit.Hid ((69 : Int) ≤ (cap : Int) ∧ 69 ≤ cap) := Lib.hid (by have := HN.out; omega); clear hown hE2 hrd hbg hgl hc1 hc2; go_wp2_with fail; refine HDC.out.mono ?_; rintro e w3 ⟨rfl, hE3⟩; have HE3 := Lib.hid (HE2.out.trans hE3); have HRD0 := Lib.hid (HRF.out.ext hE3); clear hE3; have hsz := msgV_size example0_wt; have hb4 := heap_alloc_new w3 (.cells (msgV noMsg) 23); have hx4 : Ext w3 (w3.alloc (.cells (msgV noMsg) 23)) := (Ext.refl _).alloc _
  have hzero : msgV noMsg = #[.int .i64 0, .string ⟨#[]⟩, .string ⟨#[]⟩, .int .i64 0, .bool false, .int .i64 0, .int .i64 0, .int .i64 0, .bool false, .string ⟨#[]⟩, .int .i64 0, .int .i64 0, .int .i64 0, .bool false, .int .i64 0, .int .i64 0, .int .i64 0, .int .i64 0, .string ⟨#[]⟩, .string ⟨#[]⟩, .string ⟨#[]⟩, .string ⟨#[]⟩, .string ⟨#[]⟩, .int .i64 0, .int .i64 0, .int .i64 0, .int .i64 0, .int .i64 0, .int .i64 0, .int .i64 0, .int .i64 0, .int .i64 0, .int .i64 0, .int .i64 0, .int .i64 0, .int .i64 0, .int .i64 0, .int .i64 0, .int .i64 0, .int .i64 0, .int .i64 0, .int .i64 0] := rfl; rw [hzero] at hb4 hx4; have HB4 := Lib.hid hb4; have HX4 := Lib.hid hx4; clear hzero hb4 hx4; go_wp2_with fail; generalize hWW : w3.alloc (.cells #[.int .i64 0, .string ⟨#[]⟩, .string ⟨#[]⟩, .int .i64 0, .bool false, .int .i64 0, .int .i64 0, .int .i64 0, .bool false, .string ⟨#[]⟩, .int .i64 0, .int .i64 0, .int .i64 0, .bool false, .int .i64 0, .int .i64 0, .int .i64 0, .int .i64 0, .string ⟨#[]⟩, .string ⟨#[]⟩, .string ⟨#[]⟩, .string ⟨#[]⟩, .string ⟨#[]⟩, .int .i64 0, .int .i64 0, .int .i64 0, .int .i64 0, .int .i64 0, .int .i64 0, .int .i64 0, .int .i64 0, .int .i64 0, .int .i64 0, .int .i64 0, .int .i64 0, .int .i64 0, .int .i64 0, .int .i64 0, .int .i64 0, .int .i64 0, .int .i64 0, .int .i64 0] 23) = w4 at HB4 HX4 ⊢; clear hWW; rw [run_storeIn example0_wt HB4.out rfl]; have HBM := Lib.hid (heap_setRow (cells := msgV example0) HB4.out)
  have HX5 := Lib.hid (HX4.out.setRow' (g := w3.heap.size) (Nat.le_refl _) (msgV example0)); generalize w4.setRow w3.heap.size (msgV example0) = w5 at HBM HX5 ⊢; have HRD := Lib.hid (HRD0.out.ext HX5.out); have HXW := Lib.hid (HE3.out.trans HX5.out); go_wp2_with (refine stop_region ?_); refine stop_go ?_
  refine wp_region_steps (fun _ => by kernel_rfl) [.is (.int .i64 0), .is (.bool true), .is (.bool true), .is (.nilIface), .is (.bool true), .is (.bool true), .is (.bool true), .is (.agg (msgV example0)), .is (.agg (msgV example0)), .is (.bool true), .is (.bool true), .is (.bool true), .is (.slice (some ⟨g, 0, none⟩) N cap), .is (.int .i64 (N : Int)), .is (.string ⟨#[56, 61, 70, 73, 88, 46, 52, 46, 52, 1, 57, 61, 53, 49, 1, 51, 53, 61, 49, 1, 52, 57, 61, 65, 1, 53, 54, 61, 66, 1, 51, 52, 61, 55, 1, 53, 50, 61, 50, 48, 50, 52, 48, 50, 50, 57, 45, 49, 50, 58, 51, 52, 58, 53, 54, 46, 55, 56, 57, 1, 49, 49, 50, 61, 120, 1, 49, 48, 61]⟩), .is (.int .i64 69), .is (.bool true), .is (.bool true), .is (.bool true), .is (.slice (some ⟨g, 0, none⟩) N cap), .is (.string ⟨#[56, 61, 70, 73, 88, 46, 52, 46, 52, 1, 57, 61, 53, 49, 1, 51, 53, 61, 49, 1, 52, 57, 61, 65, 1, 53, 54, 61, 66, 1, 51, 52, 61, 55, 1, 53, 50, 61, 50, 48, 50, 52, 48, 50, 50, 57, 45, 49, 50, 58, 51, 52, 58, 53, 54, 46, 55, 56, 57, 1, 49, 49, 50, 61, 120, 1, 49, 48, 61]⟩), .is (.int .i64 69), .is (.slice (some ⟨g, 0, none⟩) 69 cap), .is (.string ⟨#[56, 61, 70, 73, 88, 46, 52, 46, 52, 1, 57, 61, 53, 49, 1, 51, 53, 61, 49, 1, 52, 57, 61, 65, 1, 53, 54, 61, 66, 1, 51, 52, 61, 55, 1, 53, 50, 61, 50, 48, 50, 52, 48, 50, 50, 57, 45, 49, 50, 58, 51, 52, 58, 53, 54, 46, 55, 56, 57, 1, 49, 49, 50, 61, 120, 1, 49, 48, 61]⟩), .is (.string ⟨#[56, 61, 70, 73, 88, 46, 52, 46, 52, 1, 57, 61, 53, 49, 1, 51, 53, 61, 49, 1, 52, 57, 61, 65, 1, 53, 54, 61, 66, 1, 51, 52, 61, 55, 1, 53, 50, 61, 50, 48, 50, 52, 48, 50, 50, 57, 45, 49, 50, 58, 51, 52, 58, 53, 54, 46, 55, 56, 57, 1, 49, 49, 50, 61, 120, 1, 49, 48, 61]⟩), .is (.bool true), .is (.bool true), .is (.bool true)] (by kernel_rfl) ?_ ?_
  · refine And.intro ?_ (And.intro ?_ (And.intro ?_ (And.intro ?_ (And.intro ?_ (And.intro ?_ (And.intro ?_ (And.intro ?_ (And.intro ?_ (And.intro ?_ (And.intro ?_ (And.intro ?_ (And.intro ?_ (And.intro ?_ (And.intro ?_ (And.intro ?_ (And.intro ?_ (And.intro ?_ (And.intro ?_ (And.intro ?_ (And.intro ?_ (And.intro ?_ (And.intro ?_ (And.intro ?_ (And.intro ?_ (And.intro ?_ (And.intro ?_ (And.intro ?_ (True.intro))))))))))))))))))))))))))))
    · intro ρ w' hE hB hD; have e2 : ρ (.tmp 2) = _ := hB (.tmp 2) rfl; clear hB hD; refine .inl ⟨rfl, ?_⟩; unfold Gives; go_simp
      first | done | exact xr0 | exact xr1
    · intro ρ w' hE hB hD; have ec : ∀ c, ρ (.const c) = c := fun c => hB (.const c) rfl
      have e16 : ρ (.tmp 16) = .int .i64 0 := hD 0 16 rfl rfl; clear hB hD; refine .inl ⟨rfl, ?_⟩; unfold Gives; go_simp
      first | done | exact xr0 | exact xr1
    · intro ρ w' hE hB hD; have e17 : ρ (.tmp 17) = .bool true := hD 1 17 rfl rfl; clear hB hD; refine .inl ⟨rfl, ?_⟩; unfold Gives; go_simp
      first | done | exact xr0 | exact xr1
    · intro ρ w' hE hB hD; have e4 : ρ (.tmp 4) = _ := hB (.tmp 4) rfl; have e18 : ρ (.tmp 18) = .bool true := hD 2 18 rfl rfl; clear hB hD; refine .inl ⟨by simp [wantedBy, e18], ?_⟩; unfold Gives; go_simp
      first | done | exact xr0 | exact xr1
    · intro ρ w' hE hB hD; have ec : ∀ c, ρ (.const c) = c := fun c => hB (.const c) rfl
      have e18 : ρ (.tmp 18) = .bool true := hD 2 18 rfl rfl; have e19 : ρ (.tmp 19) = .nilIface := hD 3 19 rfl rfl; clear hB hD; refine .inl ⟨by simp [wantedBy, e18], ?_⟩; unfold Gives; go_simp
      first | done | exact xr0 | exact xr1
    · intro ρ w' hE hB hD; have ec : ∀ c, ρ (.const c) = c := fun c => hB (.const c) rfl
      have e18 : ρ (.tmp 18) = .bool true := hD 2 18 rfl rfl; have e20 : ρ (.tmp 20) = .bool true := hD 4 20 rfl rfl; clear hB hD; refine .inl ⟨rfl, ?_⟩; unfold Gives; go_simp
      first | done | exact xr0 | exact xr1
    · intro ρ w' hE hB hD; have e21 : ρ (.tmp 21) = .bool true := hD 5 21 rfl rfl; clear hB hD; refine .inl ⟨rfl, ?_⟩; unfold Gives; go_simp
      first | done | exact xr0 | exact xr1
    · intro ρ w' hE hB hD; have hrow := rowOf_blk (hE.heap HBM.out); have hsz := msgV_size example0_wt; have e3 : ρ (.tmp 3) = _ := hB (.tmp 3) rfl; have e22 : ρ (.tmp 22) = .bool true := hD 6 22 rfl rfl; clear hB hD; refine .inl ⟨by simp [wantedBy, e22], ?_⟩; unfold Gives; go_simp
      first | done | exact xr0 | exact xr1
    · intro ρ w' hE hB hD; have hB0 := fun f => hB (.func f) rfl
      have e22 : ρ (.tmp 22) = .bool true := hD 6 22 rfl rfl; clear hB hD; refine .inl ⟨by simp [wantedBy, e22], ?_⟩; refine gives_call ent_outcrylaw05_example (hB0 _) ?_; refine (example_calls _).mono ?_; rintro e w'' ⟨rfl, hX⟩; exact ⟨_, rfl, hX, rfl⟩
    · intro ρ w' hE hB hD; have e22 : ρ (.tmp 22) = .bool true := hD 6 22 rfl rfl; have e23 : ρ (.tmp 23) = .agg (msgV example0) := hD 7 23 rfl rfl; have e24 : ρ (.tmp 24) = .agg (msgV example0) := hD 8 24 rfl rfl; clear hB hD; refine .inl ⟨by simp [wantedBy, e22], ?_⟩; unfold Gives; change Gives _ _ _ _ _; exact gives_eqEx e23 e24 ⟨Ext.refl _, rfl⟩
    · intro ρ w' hE hB hD; have ec : ∀ c, ρ (.const c) = c := fun c => hB (.const c) rfl
      have e22 : ρ (.tmp 22) = .bool true := hD 6 22 rfl rfl; have e25 : ρ (.tmp 25) = .bool true := hD 9 25 rfl rfl; clear hB hD; refine .inl ⟨rfl, ?_⟩; unfold Gives; go_simp
      first | done | exact xr0 | exact xr1
    · intro ρ w' hE hB hD; have e26 : ρ (.tmp 26) = .bool true := hD 10 26 rfl rfl; clear hB hD; refine .inl ⟨rfl, ?_⟩; unfold Gives; go_simp
      first | done | exact xr0 | exact xr1
    · intro ρ w' hE hB hD; have e1 : ρ (.tmp 1) = _ := hB (.tmp 1) rfl; have e27 : ρ (.tmp 27) = .bool true := hD 11 27 rfl rfl; clear hB hD; refine .inl ⟨by simp [wantedBy, e27], ?_⟩; unfold Gives; go_simp
      first | done | exact xr0 | exact xr1
    · intro ρ w' hE hB hD; have e27 : ρ (.tmp 27) = .bool true := hD 11 27 rfl rfl; have e28 : ρ (.tmp 28) = .slice (some ⟨g, 0, none⟩) N cap := hD 12 28 rfl rfl; clear hB hD; refine .inl ⟨by simp [wantedBy, e27], ?_⟩; unfold Gives; go_simp
      first | done | exact xr0 | exact xr1
    · intro ρ w' hE hB hD; have e5 : ρ (.tmp 5) = _ := hB (.tmp 5) rfl; have e27 : ρ (.tmp 27) = .bool true := hD 11 27 rfl rfl; clear hB hD; refine .inl ⟨by simp [wantedBy, e27], ?_⟩; unfold Gives; go_simp
      first | done | exact xr0 | exact xr1
    · intro ρ w' hE hB hD; have e27 : ρ (.tmp 27) = .bool true := hD 11 27 rfl rfl; have e30 : ρ (.tmp 30) = .string ⟨#[56, 61, 70, 73, 88, 46, 52, 46, 52, 1, 57, 61, 53, 49, 1, 51, 53, 61, 49, 1, 52, 57, 61, 65, 1, 53, 54, 61, 66, 1, 51, 52, 61, 55, 1, 53, 50, 61, 50, 48, 50, 52, 48, 50, 50, 57, 45, 49, 50, 58, 51, 52, 58, 53, 54, 46, 55, 56, 57, 1, 49, 49, 50, 61, 120, 1, 49, 48, 61]⟩ := hD 14 30 rfl rfl; clear hB hD; refine .inl ⟨by simp [wantedBy, e27], ?_⟩; unfold Gives; go_simp
      first | done | exact xr0 | exact xr1
    · intro ρ w' hE hB hD; have e27 : ρ (.tmp 27) = .bool true := hD 11 27 rfl rfl; have e29 : ρ (.tmp 29) = .int .i64 (N : Int) := hD 13 29 rfl rfl; have e31 : ρ (.tmp 31) = .int .i64 69 := hD 15 31 rfl rfl; clear hB hD; refine .inl ⟨by simp [wantedBy, e27], ?_⟩; unfold Gives; go_simp; exact ⟨Ext.refl _, congrArg Value.bool (decide_eq_true (by have := HN.out; omega))⟩
    · intro ρ w' hE hB hD; have ec : ∀ c, ρ (.const c) = c := fun c => hB (.const c) rfl
      have e27 : ρ (.tmp 27) = .bool true := hD 11 27 rfl rfl; have e32 : ρ (.tmp 32) = .bool true := hD 16 32 rfl rfl; clear hB hD; refine .inl ⟨rfl, ?_⟩; unfold Gives; go_simp
      first | done | exact xr0 | exact xr1
    · intro ρ w' hE hB hD; have e33 : ρ (.tmp 33) = .bool true := hD 17 33 rfl rfl; clear hB hD; refine .inl ⟨rfl, ?_⟩; unfold Gives; go_simp
      first | done | exact xr0 | exact xr1
    · intro ρ w' hE hB hD; have e1 : ρ (.tmp 1) = _ := hB (.tmp 1) rfl; have e34 : ρ (.tmp 34) = .bool true := hD 18 34 rfl rfl; clear hB hD; refine .inl ⟨by simp [wantedBy, e34], ?_⟩; unfold Gives; go_simp
      first | done | exact xr0 | exact xr1
    · intro ρ w' hE hB hD; have e5 : ρ (.tmp 5) = _ := hB (.tmp 5) rfl; have e34 : ρ (.tmp 34) = .bool true := hD 18 34 rfl rfl; clear hB hD; refine .inl ⟨by simp [wantedBy, e34], ?_⟩; unfold Gives; go_simp
      first | done | exact xr0 | exact xr1
    · intro ρ w' hE hB hD; have e34 : ρ (.tmp 34) = .bool true := hD 18 34 rfl rfl; have e36 : ρ (.tmp 36) = .string ⟨#[56, 61, 70, 73, 88, 46, 52, 46, 52, 1, 57, 61, 53, 49, 1, 51, 53, 61, 49, 1, 52, 57, 61, 65, 1, 53, 54, 61, 66, 1, 51, 52, 61, 55, 1, 53, 50, 61, 50, 48, 50, 52, 48, 50, 50, 57, 45, 49, 50, 58, 51, 52, 58, 53, 54, 46, 55, 56, 57, 1, 49, 49, 50, 61, 120, 1, 49, 48, 61]⟩ := hD 20 36 rfl rfl; clear hB hD; refine .inl ⟨by simp [wantedBy, e34], ?_⟩; unfold Gives; go_simp
      first | done | exact xr0 | exact xr1
    · intro ρ w' hE hB hD; have h1 := HCAP.out.1; have h2 := HCAP.out.2; have e34 : ρ (.tmp 34) = .bool true := hD 18 34 rfl rfl; have e35 : ρ (.tmp 35) = .slice (some ⟨g, 0, none⟩) N cap := hD 19 35 rfl rfl; have e37 : ρ (.tmp 37) = .int .i64 69 := hD 21 37 rfl rfl; clear hB hD; refine .inl ⟨by simp [wantedBy, e34], ?_⟩; unfold Gives; go_simp
      first | done | exact xr0 | exact xr1
    · intro ρ w' hE hB hD; have hrt := (HRD.out.ext hE).take 69; rw [HTAKE.out] at hrt; have hcv := conv_reads w' (some ⟨g, 0, none⟩) want0 cap hrt; unfold want0 at hcv; simp only [List.length_cons, List.length_nil, Nat.reduceAdd] at hcv; have e34 : ρ (.tmp 34) = .bool true := hD 18 34 rfl rfl; have e38 : ρ (.tmp 38) = .slice (some ⟨g, 0, none⟩) 69 cap := hD 22 38 rfl rfl; clear hB hD; refine .inl ⟨by simp [wantedBy, e34], ?_⟩; unfold Gives; go_simp
      first | done | exact xr0 | exact xr1
    · intro ρ w' hE hB hD; have e5 : ρ (.tmp 5) = _ := hB (.tmp 5) rfl; have e34 : ρ (.tmp 34) = .bool true := hD 18 34 rfl rfl; clear hB hD; refine .inl ⟨by simp [wantedBy, e34], ?_⟩; unfold Gives; go_simp
      first | done | exact xr0 | exact xr1
    · intro ρ w' hE hB hD; have e34 : ρ (.tmp 34) = .bool true := hD 18 34 rfl rfl; have e39 : ρ (.tmp 39) = .string ⟨#[56, 61, 70, 73, 88, 46, 52, 46, 52, 1, 57, 61, 53, 49, 1, 51, 53, 61, 49, 1, 52, 57, 61, 65, 1, 53, 54, 61, 66, 1, 51, 52, 61, 55, 1, 53, 50, 61, 50, 48, 50, 52, 48, 50, 50, 57, 45, 49, 50, 58, 51, 52, 58, 53, 54, 46, 55, 56, 57, 1, 49, 49, 50, 61, 120, 1, 49, 48, 61]⟩ := hD 23 39 rfl rfl; have e40 : ρ (.tmp 40) = .string ⟨#[56, 61, 70, 73, 88, 46, 52, 46, 52, 1, 57, 61, 53, 49, 1, 51, 53, 61, 49, 1, 52, 57, 61, 65, 1, 53, 54, 61, 66, 1, 51, 52, 61, 55, 1, 53, 50, 61, 50, 48, 50, 52, 48, 50, 50, 57, 45, 49, 50, 58, 51, 52, 58, 53, 54, 46, 55, 56, 57, 1, 49, 49, 50, 61, 120, 1, 49, 48, 61]⟩ := hD 24 40 rfl rfl; clear hB hD; refine .inl ⟨by simp [wantedBy, e34], ?_⟩; unfold Gives; go_simp
      first | done | exact xr0 | exact xr1
    · intro ρ w' hE hB hD; have ec : ∀ c, ρ (.const c) = c := fun c => hB (.const c) rfl
      have e34 : ρ (.tmp 34) = .bool true := hD 18 34 rfl rfl; have e41 : ρ (.tmp 41) = .bool true := hD 25 41 rfl rfl; clear hB hD; refine .inl ⟨rfl, ?_⟩; unfold Gives; go_simp
      first | done | exact xr0 | exact xr1
    · intro ρ w' hE hB hD; have e42 : ρ (.tmp 42) = .bool true := hD 26 42 rfl rfl; clear hB hD; refine .inl ⟨rfl, ?_⟩; unfold Gives; go_simp
      first | done | exact xr0 | exact xr1
  · intro a' w6 hE1 hd' hs' hB' hP'
    have ha' := act_of_posts [(16, .int .i64 0), (17, .bool true), (18, .bool true), (19, .nilIface), (20, .bool true), (21, .bool true), (22, .bool true), (23, .agg (msgV example0)), (24, .agg (msgV example0)), (25, .bool true), (26, .bool true), (27, .bool true), (28, .slice (some ⟨g, 0, none⟩) N cap), (29, .int .i64 (N : Int)), (30, .string ⟨#[56, 61, 70, 73, 88, 46, 52, 46, 52, 1, 57, 61, 53, 49, 1, 51, 53, 61, 49, 1, 52, 57, 61, 65, 1, 53, 54, 61, 66, 1, 51, 52, 61, 55, 1, 53, 50, 61, 50, 48, 50, 52, 48, 50, 50, 57, 45, 49, 50, 58, 51, 52, 58, 53, 54, 46, 55, 56, 57, 1, 49, 49, 50, 61, 120, 1, 49, 48, 61]⟩), (31, .int .i64 69), (32, .bool true), (33, .bool true), (34, .bool true), (35, .slice (some ⟨g, 0, none⟩) N cap), (36, .string ⟨#[56, 61, 70, 73, 88, 46, 52, 46, 52, 1, 57, 61, 53, 49, 1, 51, 53, 61, 49, 1, 52, 57, 61, 65, 1, 53, 54, 61, 66, 1, 51, 52, 61, 55, 1, 53, 50, 61, 50, 48, 50, 52, 48, 50, 50, 57, 45, 49, 50, 58, 51, 52, 58, 53, 54, 46, 55, 56, 57, 1, 49, 49, 50, 61, 120, 1, 49, 48, 61]⟩), (37, .int .i64 69), (38, .slice (some ⟨g, 0, none⟩) 69 cap), (39, .string ⟨#[56, 61, 70, 73, 88, 46, 52, 46, 52, 1, 57, 61, 53, 49, 1, 51, 53, 61, 49, 1, 52, 57, 61, 65, 1, 53, 54, 61, 66, 1, 51, 52, 61, 55, 1, 53, 50, 61, 50, 48, 50, 52, 48, 50, 50, 57, 45, 49, 50, 58, 51, 52, 58, 53, 54, 46, 55, 56, 57, 1, 49, 49, 50, 61, 120, 1, 49, 48, 61]⟩), (40, .string ⟨#[56, 61, 70, 73, 88, 46, 52, 46, 52, 1, 57, 61, 53, 49, 1, 51, 53, 61, 49, 1, 52, 57, 61, 65, 1, 53, 54, 61, 66, 1, 51, 52, 61, 55, 1, 53, 50, 61, 50, 48, 50, 52, 48, 50, 50, 57, 45, 49, 50, 58, 51, 52, 58, 53, 54, 46, 55, 56, 57, 1, 49, 49, 50, 61, 120, 1, 49, 48, 61]⟩), (41, .bool true), (42, .bool true), (0, .bool true)] hd' hs' hB' (by simp) (by kernel_rfl) (by
      intro p hp; simp only [List.mem_cons, List.mem_nil_iff, or_false] at hp
      rcases hp with rfl | rfl | rfl | rfl | rfl | rfl | rfl | rfl | rfl | rfl | rfl | rfl | rfl | rfl | rfl | rfl | rfl | rfl | rfl | rfl | rfl | rfl | rfl | rfl | rfl | rfl | rfl | rfl
      · exact hP' 0 16 rfl
      · exact hP' 1 17 rfl
      · exact hP' 2 18 rfl
      · exact hP' 3 19 rfl
      · exact hP' 4 20 rfl
      · exact hP' 5 21 rfl
      · exact hP' 6 22 rfl
      · exact hP' 7 23 rfl
      · exact hP' 8 24 rfl
      · exact hP' 9 25 rfl
      · exact hP' 10 26 rfl
      · exact hP' 11 27 rfl
      · exact hP' 12 28 rfl
      · exact hP' 13 29 rfl
      · exact hP' 14 30 rfl
      · exact hP' 15 31 rfl
      · exact hP' 16 32 rfl
      · exact hP' 17 33 rfl
      · exact hP' 18 34 rfl
      · exact hP' 19 35 rfl
      · exact hP' 20 36 rfl
      · exact hP' 21 37 rfl
      · exact hP' 22 38 rfl
      · exact hP' 23 39 rfl
      · exact hP' 24 40 rfl
      · exact hP' 25 41 rfl
      · exact hP' 26 42 rfl
      · exact hP' 27 0 rfl)
    clear hB' hP' hs' hd'; simp only [List.foldl_cons, List.foldl_nil, List.setIfInBounds_toArray, List.set_cons_succ, List.set_cons_zero] at ha'; subst ha'; go_wp2; go_ret; exact ⟨rfl, HXW.out.trans hE1⟩
end
section
open Go Go.RowKit
set_option maxHeartbeats 6400000
set_option maxRecDepth 100000
attribute [local go_sem ↓] loadVarMsg buildMsg0 eqMsg
attribute [local go_sem] ba_get loadRowMsg rowOf_new rowOf_old rowOf_drew
theorem allocSays (w3 : World) : Ext w3 (w3.alloc (.cells #[.int .i64 0, .string ⟨#[]⟩, .string ⟨#[]⟩, .int .i64 0, .bool false, .int .i64 0, .int .i64 0, .int .i64 0, .bool false, .string ⟨#[]⟩, .int .i64 0, .int .i64 0, .int .i64 0, .bool false, .int .i64 0, .int .i64 0, .int .i64 0, .int .i64 0, .string ⟨#[]⟩, .string ⟨#[]⟩, .string ⟨#[]⟩, .string ⟨#[]⟩, .string ⟨#[]⟩, .int .i64 0, .int .i64 0, .int .i64 0, .int .i64 0, .int .i64 0, .int .i64 0, .int .i64 0, .int .i64 0, .int .i64 0, .int .i64 0, .int .i64 0, .int .i64 0, .int .i64 0, .int .i64 0, .int .i64 0, .int .i64 0, .int .i64 0, .int .i64 0, .int .i64 0] 23)) ∧ (w3.alloc (.cells #[.int .i64 0, .string ⟨#[]⟩, .string ⟨#[]⟩, .int .i64 0, .bool false, .int .i64 0, .int .i64 0, .int .i64 0, .bool false, .string ⟨#[]⟩, .int .i64 0, .int .i64 0, .int .i64 0, .bool false, .int .i64 0, .int .i64 0, .int .i64 0, .int .i64 0, .string ⟨#[]⟩, .string ⟨#[]⟩, .string ⟨#[]⟩, .string ⟨#[]⟩, .string ⟨#[]⟩, .int .i64 0, .int .i64 0, .int .i64 0, .int .i64 0, .int .i64 0, .int .i64 0, .int .i64 0, .int .i64 0, .int .i64 0, .int .i64 0, .int .i64 0, .int .i64 0, .int .i64 0, .int .i64 0, .int .i64 0, .int .i64 0, .int .i64 0, .int .i64 0, .int .i64 0] 23)).heap[w3.heap.size]? = some (.cells #[.int .i64 0, .string ⟨#[]⟩, .string ⟨#[]⟩, .int .i64 0, .bool false, .int .i64 0, .int .i64 0, .int .i64 0, .bool false, .string ⟨#[]⟩, .int .i64 0, .int .i64 0, .int .i64 0, .bool false, .int .i64 0, .int .i64 0, .int .i64 0, .int .i64 0, .string ⟨#[]⟩, .string ⟨#[]⟩, .string ⟨#[]⟩, .string ⟨#[]⟩, .string ⟨#[]⟩, .int .i64 0, .int .i64 0, .int .i64 0, .int .i64 0, .int .i64 0, .int .i64 0, .int .i64 0, .int .i64 0, .int .i64 0, .int .i64 0, .int .i64 0, .int .i64 0, .int .i64 0, .int .i64 0, .int .i64 0, .int .i64 0, .int .i64 0, .int .i64 0, .int .i64 0] 23) := by
  have h1 : Ext w3 (w3.alloc (.cells (msgV noMsg) 23)) := (Ext.refl _).alloc _; have h2 := heap_alloc_new w3 (.cells (msgV noMsg) 23); have hzero : msgV noMsg = #[.int .i64 0, .string ⟨#[]⟩, .string ⟨#[]⟩, .int .i64 0, .bool false, .int .i64 0, .int .i64 0, .int .i64 0, .bool false, .string ⟨#[]⟩, .int .i64 0, .int .i64 0, .int .i64 0, .bool false, .int .i64 0, .int .i64 0, .int .i64 0, .int .i64 0, .string ⟨#[]⟩, .string ⟨#[]⟩, .string ⟨#[]⟩, .string ⟨#[]⟩, .string ⟨#[]⟩, .int .i64 0, .int .i64 0, .int .i64 0, .int .i64 0, .int .i64 0, .int .i64 0, .int .i64 0, .int .i64 0, .int .i64 0, .int .i64 0, .int .i64 0, .int .i64 0, .int .i64 0, .int .i64 0, .int .i64 0, .int .i64 0, .int .i64 0, .int .i64 0, .int .i64 0] := rfl; rw [hzero] at h1 h2; exact ⟨h1, h2⟩
theorem fixTakes_calls (s : List UInt8) (A : Option Addr) (cap : Nat) (w : World) (hE : Env w) (hs : s.length ≤ 140737488355328) (hcap : s.length ≤ cap) (hcap2 : cap ≤ 9223372036854775807) (hb : Reads w A s) :
    Calls Tryz.prog 4 #[.slice A s.length cap] w fun e w' => e = .returned (.bool true) ∧ Ext w w' := by
  have hal : ∀ w3 : World, Ext w3 (w3.alloc (.cells #[.int .i64 0, .string ⟨#[]⟩, .string ⟨#[]⟩, .int .i64 0, .bool false, .int .i64 0, .int .i64 0, .int .i64 0, .bool false, .string ⟨#[]⟩, .int .i64 0, .int .i64 0, .int .i64 0, .bool false, .int .i64 0, .int .i64 0, .int .i64 0, .int .i64 0, .string ⟨#[]⟩, .string ⟨#[]⟩, .string ⟨#[]⟩, .string ⟨#[]⟩, .string ⟨#[]⟩, .int .i64 0, .int .i64 0, .int .i64 0, .int .i64 0, .int .i64 0, .int .i64 0, .int .i64 0, .int .i64 0, .int .i64 0, .int .i64 0, .int .i64 0, .int .i64 0, .int .i64 0, .int .i64 0, .int .i64 0, .int .i64 0, .int .i64 0, .int .i64 0, .int .i64 0] 23)) ∧ (w3.alloc (.cells #[.int .i64 0, .string ⟨#[]⟩, .string ⟨#[]⟩, .int .i64 0, .bool false, .int .i64 0, .int .i64 0, .int .i64 0, .bool false, .string ⟨#[]⟩, .int .i64 0, .int .i64 0, .int .i64 0, .bool false, .int .i64 0, .int .i64 0, .int .i64 0, .int .i64 0, .string ⟨#[]⟩, .string ⟨#[]⟩, .string ⟨#[]⟩, .string ⟨#[]⟩, .string ⟨#[]⟩, .int .i64 0, .int .i64 0, .int .i64 0, .int .i64 0, .int .i64 0, .int .i64 0, .int .i64 0, .int .i64 0, .int .i64 0, .int .i64 0, .int .i64 0, .int .i64 0, .int .i64 0, .int .i64 0, .int .i64 0, .int .i64 0, .int .i64 0, .int .i64 0, .int .i64 0] 23)).heap[w3.heap.size]? = some (.cells #[.int .i64 0, .string ⟨#[]⟩, .string ⟨#[]⟩, .int .i64 0, .bool false, .int .i64 0, .int .i64 0, .int .i64 0, .bool false, .string ⟨#[]⟩, .int .i64 0, .int .i64 0, .int .i64 0, .bool false, .int .i64 0, .int .i64 0, .int .i64 0, .int .i64 0, .string ⟨#[]⟩, .string ⟨#[]⟩, .string ⟨#[]⟩, .string ⟨#[]⟩, .string ⟨#[]⟩, .int .i64 0, .int .i64 0, .int .i64 0, .int .i64 0, .int .i64 0, .int .i64 0, .int .i64 0, .int .i64 0, .int .i64 0, .int .i64 0, .int .i64 0, .int .i64 0, .int .i64 0, .int .i64 0, .int .i64 0, .int .i64 0, .int .i64 0, .int .i64 0, .int .i64 0] 23) := allocSays
  have HALLOC := Lib.hid hal; have HE := Lib.hid hE; have HDEC := Lib.hid (fun w1 (h : Ext w w1) => decode_calls s A cap w1 (hE.ext h) hs hcap hcap2 (hb.ext h)); obtain ⟨L, hL⟩ : ∃ n, s.length = n := ⟨_, rfl⟩
  have HTK := Lib.hid (fun m (h : decode s = .inl m) => decode_takes h); have HCO := Lib.hid (fun e (h : decode s = .inr e) => decode_code h); rw [hL] at HDEC ⊢; clear hal hE hb hs hcap hcap2 hL; have HNO : RowKit.Hid (WT noMsg) := Lib.hid (by decide)
  rcases hd : decode s with m | f
  · rw [hd] at HDEC; obtain ⟨hwt, hval⟩ := HTK.out m hd; have HWT := Lib.hid hwt; have HVAL := Lib.hid (valid_calls m hwt); obtain ⟨⟨v1, v2⟩, hv⟩ : ∃ v, valid m = v := ⟨_, rfl⟩
    have HENC := Lib.hid (fun w1 (h : Ext w w1) => encode_calls m hwt w1 (HE.out.ext h)); obtain ⟨he1, _, he3⟩ := encode_good hwt hval; have hde := (decode_encode hwt hval).1; rw [he1] at HENC hde; rw [hv] at HVAL hval; dsimp only at hval; subst hval; obtain ⟨fr, hfr⟩ : ∃ q, frameOf (fieldsOf m) = q := ⟨_, rfl⟩
    rw [hfr] at HENC hde he3; have HDE := Lib.hid hde; have HLE := Lib.hid he3; clear hd hv he1 hfr hde he3 HTK HCO; have hsz := msgV_size hwt; clear hwt
    go_enter Tryz.func4, Tryz.ntmps4
    go_wp2_with fail; refine (shown_calls _ HE.out).mono ?_; rintro e w1 ⟨rfl, hE1⟩; have HX1 := Lib.hid hE1; clear hE1; go_wp2_with fail; refine (HDEC.out _ HX1.out).mono ?_; rintro e w2 ⟨rfl, hE2⟩; have HX2 := Lib.hid (HX1.out.trans hE2); clear hE2; have hb := HALLOC.out w2; go_wp2_with fail; generalize hWW : w2.alloc (.cells #[.int .i64 0, .string ⟨#[]⟩, .string ⟨#[]⟩, .int .i64 0, .bool false, .int .i64 0, .int .i64 0, .int .i64 0, .bool false, .string ⟨#[]⟩, .int .i64 0, .int .i64 0, .int .i64 0, .bool false, .int .i64 0, .int .i64 0, .int .i64 0, .int .i64 0, .string ⟨#[]⟩, .string ⟨#[]⟩, .string ⟨#[]⟩, .string ⟨#[]⟩, .string ⟨#[]⟩, .int .i64 0, .int .i64 0, .int .i64 0, .int .i64 0, .int .i64 0, .int .i64 0, .int .i64 0, .int .i64 0, .int .i64 0, .int .i64 0, .int .i64 0, .int .i64 0, .int .i64 0, .int .i64 0, .int .i64 0, .int .i64 0, .int .i64 0, .int .i64 0, .int .i64 0] 23) = wx at hb ⊢; clear hWW; rw [run_storeIn HWT.out hb.2 rfl]; have H3B := Lib.hid (heap_setRow (cells := msgV m) hb.2); have H3X := Lib.hid (Ext.trans (HX2.out) (Ext.setRow' hb.1 (g := w2.heap.size) (Nat.le_refl _) (msgV m))); have H3E := Lib.hid (Ext.setRow' hb.1 (g := w2.heap.size) (Nat.le_refl _) (msgV m)); generalize wx.setRow w2.heap.size (msgV m) = w3 at H3B H3X H3E ⊢; clear hb; have hrow := rowOf_blk H3B.out; go_wp2_with fail; refine (HVAL.out _).mono ?_; rintro e w4 ⟨rfl, hE4⟩; have HX4 := Lib.hid (H3X.out.trans hE4); have H4B := Lib.hid (hE4.heap H3B.out); clear hE4 hrow
    have hrow := rowOf_blk H4B.out; go_wp2_with fail; refine (HENC.out _ HX4.out).mono ?_; rintro e w5 ⟨⟨v, rfl, hown⟩, hE5⟩; have hown : Own w5 _ 5 v fr := hown; obtain ⟨g, cap5, rfl, hc1, hc2, hrd, hbg, hgl⟩ := hown.readsB; have HX5 := Lib.hid (HX4.out.trans hE5); have H5B := Lib.hid (hE5.heap H4B.out); have HD5 := Lib.hid (decode_calls fr (some ⟨g, 0, none⟩) cap5 w5 (HE.out.ext HX5.out) (by have := HLE.out; omega) hc1 hc2 hrd); rw [HDE.out] at HD5; clear hown hE5 hrd hbg hgl hc1 hc2 hrow; go_wp2_with fail; refine HD5.out.mono ?_; rintro e w6 ⟨rfl, hE6⟩; have HX6 := Lib.hid (HX5.out.trans hE6); have H6B := Lib.hid (hE6.heap H5B.out); clear hE6; have hb := HALLOC.out w6; go_wp2_with fail; generalize hWW : w6.alloc (.cells #[.int .i64 0, .string ⟨#[]⟩, .string ⟨#[]⟩, .int .i64 0, .bool false, .int .i64 0, .int .i64 0, .int .i64 0, .bool false, .string ⟨#[]⟩, .int .i64 0, .int .i64 0, .int .i64 0, .bool false, .int .i64 0, .int .i64 0, .int .i64 0, .int .i64 0, .string ⟨#[]⟩, .string ⟨#[]⟩, .string ⟨#[]⟩, .string ⟨#[]⟩, .string ⟨#[]⟩, .int .i64 0, .int .i64 0, .int .i64 0, .int .i64 0, .int .i64 0, .int .i64 0, .int .i64 0, .int .i64 0, .int .i64 0, .int .i64 0, .int .i64 0, .int .i64 0, .int .i64 0, .int .i64 0, .int .i64 0, .int .i64 0, .int .i64 0, .int .i64 0, .int .i64 0] 23) = wx at hb ⊢; clear hWW; rw [run_storeIn HWT.out hb.2 rfl]; have H7B := Lib.hid (heap_setRow (cells := msgV m) hb.2)
    have H7X := Lib.hid (Ext.trans (HX6.out) (Ext.setRow' hb.1 (g := w6.heap.size) (Nat.le_refl _) (msgV m))); have H7E := Lib.hid (Ext.setRow' hb.1 (g := w6.heap.size) (Nat.le_refl _) (msgV m)); generalize wx.setRow w6.heap.size (msgV m) = w7 at H7B H7X H7E ⊢; clear hb; have hrow := rowOf_blk H7B.out; have hrow2 := rowOf_blk (H7E.out.heap H6B.out); have hwt := HWT.out; go_wp2; go_ret; exact ⟨rfl, H7X.out⟩
  · rw [hd] at HDEC; have hco := HCO.out f hd; have HC := Lib.hid hco; obtain ⟨at_, er⟩ := f; clear hd hco HTK HCO; have hsz : (msgV noMsg).size = 42 := by decide
    go_enter Tryz.func4, Tryz.ntmps4
    go_wp2_with fail; refine (shown_calls _ HE.out).mono ?_; rintro e w1 ⟨rfl, hE1⟩; have HX1 := Lib.hid hE1; clear hE1; go_wp2_with fail; refine (HDEC.out _ HX1.out).mono ?_; rintro e w2 ⟨⟨v, rfl, hv⟩, hE2⟩; have HX2 := Lib.hid (HX1.out.trans hE2); have HV2 := Lib.hid hv; clear hE2 hv; have hb := HALLOC.out w2; go_wp2_with fail; generalize hWW : w2.alloc (.cells #[.int .i64 0, .string ⟨#[]⟩, .string ⟨#[]⟩, .int .i64 0, .bool false, .int .i64 0, .int .i64 0, .int .i64 0, .bool false, .string ⟨#[]⟩, .int .i64 0, .int .i64 0, .int .i64 0, .bool false, .int .i64 0, .int .i64 0, .int .i64 0, .int .i64 0, .string ⟨#[]⟩, .string ⟨#[]⟩, .string ⟨#[]⟩, .string ⟨#[]⟩, .string ⟨#[]⟩, .int .i64 0, .int .i64 0, .int .i64 0, .int .i64 0, .int .i64 0, .int .i64 0, .int .i64 0, .int .i64 0, .int .i64 0, .int .i64 0, .int .i64 0, .int .i64 0, .int .i64 0, .int .i64 0, .int .i64 0, .int .i64 0, .int .i64 0, .int .i64 0, .int .i64 0] 23) = wx at hb ⊢; clear hWW; rw [run_storeIn HNO.out hb.2 rfl]; have H3B := Lib.hid (heap_setRow (cells := msgV noMsg) hb.2); have H3X := Lib.hid (Ext.trans (HX2.out) (Ext.setRow' hb.1 (g := w2.heap.size) (Nat.le_refl _) (msgV noMsg))); have H3E := Lib.hid (Ext.setRow' hb.1 (g := w2.heap.size) (Nat.le_refl _) (msgV noMsg)); generalize wx.setRow w2.heap.size (msgV noMsg) = w3 at H3B H3X H3E ⊢; clear hb; have HV3 := Lib.hid (HV2.out.ext H3E.out); have HFA := Lib.hid (faultAt_calls _ _ v at_ er HV3.out HC.out); go_wp2_with fail; refine HFA.out.mono ?_
    rintro e w4 ⟨rfl, hE4⟩; have HX4 := Lib.hid (H3X.out.trans hE4); have hrow := rowOf_blk (hE4.heap H3B.out); clear hE4; have hwt := HNO.out; go_wp2_with fail; refine wp_build0 rfl ?_; go_wp2; go_ret; exact ⟨rfl, HX4.out⟩
end
section
open Go Go.RowKit
set_option maxRecDepth 100000
theorem start3 : ((((begin Tryz.prog (fun _ _ => 0) default).world).heap[3]?).bind Obj.row?) = some (#[.int .i64 0], 3) := by kernel_rfl
theorem most_of_shaped {w : World} (h : w.ShapedOpen Tryz.prog) : ∃ m, w.cell? ⟨3, 0, none⟩ = some (.int .i64 m) := by
  obtain ⟨cs, hb, hsz, hok⟩ := h.1 3 _ _ glob_most start3; have hr := hok (by kernel_rfl); obtain ⟨ts, hts, _, hcell⟩ := hr; have e : Tryz.prog.cellTypes Tryz.prog.depth 3 = some [3] := by kernel_rfl
  rw [e] at hts; obtain rfl := Option.some.inj hts; obtain ⟨l⟩ := cs
  match l, hsz with
  | [v], _ =>
    obtain ⟨u, hu, hv⟩ := hcell 0 v rfl; obtain rfl : 3 = u := by simpa using hu
    have hc : w.cell? ⟨3, 0, none⟩ = some v := by
      have := (blk_facts hb).1 0
      simpa using this
    have hu3 : Tryz.prog.underlying 3 = some (.int .i64) := by kernel_rfl
    unfold Go.Cell.ok at hv; rw [hu3] at hv
    cases v <;> simp only at hv <;> first | exact hv.elim | skip
    obtain ⟨rfl, _⟩ := hv; exact ⟨_, hc⟩
theorem laid_mem {P : Program} {w : World} {n : String} {d : DataW Unit} : ∀ {l : List (String × DataW Unit)} {ps : List MemPlace}, DataW.LaidVars P w l ps → (n, d) ∈ l →
    ∃ g t cs fuel p, P.globalNamed n = some g ∧ (P.globals[g]?).map (·.type) = some t ∧ w.var? P n = some cs ∧ DataW.trod (fun _ => ()) P w 0 (fun _ => true) false fuel t cs.toList = some (d, p)
  | [], _, _, h => by cases h
  | (n', d') :: r, ps, h, hm => by
    obtain ⟨g, t, cs, fuel, p, q, h1, h2, h3, h4, h5, _⟩ := h
    rcases List.mem_cons.1 hm with e | hm
    · cases e
      exact ⟨g, t, cs, fuel, p, h1, h2, h3, h4⟩
    · exact laid_mem h5 hm
theorem gPow : ∃ g, Tryz.prog.globalNamed "internal/strconv.uint64pow10" = some g ∧ ∃ t e n, (Tryz.prog.globals[g]?).map (·.type) = some t ∧ Tryz.prog.underlying t = some (.array n e) ∧ Tryz.prog.underlying e = some (.int .u64) ∧ Tryz.prog.cellsOf e = 1 ∧ Tryz.prog.cellsOf t = n := ⟨_, rfl, _, _, _, rfl, rfl, rfl, rfl, rfl⟩
theorem gRange : ∃ g, Tryz.prog.globalNamed "strconv.ErrRange" = some g ∧ ∃ t ms, (Tryz.prog.globals[g]?).map (·.type) = some t ∧ Tryz.prog.underlying t = some (.interface ms) := ⟨_, rfl, _, _, rfl, rfl⟩
theorem env_of_laid {w : World} {l : List (String × DataW Unit)} (h : laidMet Tryz.prog l w) (hs : w.ShapedOpen Tryz.prog) (hz : Tryz.prog.globals.size ≤ w.heap.size)
    (h1 : ("internal/strconv.uint64pow10", Rows.laid_internal_strconv_uint64pow10) ∈ l) (h2 : ("strconv.ErrRange", Rows.laid_strconv_ErrRange) ∈ l) : Env w := by
  obtain ⟨ps, hv, _⟩ := h; refine ⟨?_, ?_, hz, most_of_shaped hs⟩
  · obtain ⟨g, t, cs, fuel, p, a1, a2, a3, a4⟩ := laid_mem hv h1; obtain ⟨g', b1, t', e, n, b2, b3, b4, b5, b6⟩ := gPow; obtain rfl := Option.some.inj (b1.symm.trans a1); obtain rfl := Option.some.inj (b2.symm.trans a2); unfold Lib.TabIs; rw [a3, ← Lib.cells_of_tab (zs := Lib.pow10Tab) (k := .u64) b3 b4 b5 b6 a4]
  · obtain ⟨g, t, cs, fuel, p, a1, a2, a3, a4⟩ := laid_mem hv h2; obtain ⟨g', b1, t', ms, b2, b3⟩ := gRange; obtain rfl := Option.some.inj (b1.symm.trans a1); obtain rfl := Option.some.inj (b2.symm.trans a2); obtain ⟨_, u, v, hc, _⟩ := iface_of_trod b3 a4; refine ⟨u, v, ?_⟩; rw [a3]; obtain ⟨cs⟩ := cs; simp only at hc; rw [hc]
end
section
open Go Go.ChangeShapes Go.WideShapes Go.ChangeAt Go.RowKit
set_option maxRecDepth 100000
theorem ownKnobs : ownKnob Tryz.prog.godebug = none := by kernel_rfl
theorem laidOutAll : laidOutB Tryz.prog = true := by kernel_rfl
theorem takes_shape (os : Os) (args : Array Value) : ((World.laidAll Tryz.prog os Rows.fixTakesRow.laid).forCall (fun _ _ => 0) ⟨#[], args, []⟩).Shaped Tryz.prog := World.shaped_of_ZipB (by kernel_rfl) (by kernel_rfl)
theorem takes_met (os : Os) (args : Array Value) : laidMet Tryz.prog Rows.fixTakesRow.laid ((World.laidAll Tryz.prog os Rows.fixTakesRow.laid).forCall (fun _ _ => 0) ⟨#[], args, []⟩).memory :=
  laidMet_laidAll _ (by kernel_rfl) (by kernel_rfl)
end
section
open Go Go.ChangeShapes Go.WideShapes Go.ChangeAt Go.RowKit
set_option maxRecDepth 100000
section
variable {H : Type} {enc : TypeId × Value → H}
theorem returns_shaped {a : Assume} {C : Checked} {os : Os} {f : FuncId} {fn : Func} {s : ChangeSpec} {conds : List PathCond} {apart fresh handsOn again : Bool} {X : World → Array Value → Prop}
    (hX : ∀ (w w' : World) (args : Array Value), w.heap = w'.heap → X w args → X w' args)
    (own : ownKnob C.prog.godebug = none) (started : os.Started) (noInit : C.prog.inits.idxOf? f = none) (hfn : C.prog.funcs[f]? = some fn)
    (witness : ∃ (w : World) (tape : Tape) (i : Input), w.os = os ∧ (w.forCall tape i).Shaped C.prog ∧ i.vars = [] ∧ Input.okWide C.prog (w.forCall tape i) .any w.heap.size f i ∧
      ((s.pre enc C.prog fn conds apart (w.forCall tape i).memory i.args ∧ X (w.forCall tape i).memory i.args) ∧ sizedMet enc C.prog fn (OpenSpec.ofChange s) apart (w.forCall tape i).memory i.args) ∧ a.holds C.prog (lone (Frame.enter C.prog f i.args .normal) [] (w.forCall tape i)))
    (contract : ∀ (W : World) (base : Nat) (args : Array Value) (ds gs : List (DataW H)) (before : List MemPlace), W.ShapedOpen C.prog →
      (∀ (j : Nat) t v, fn.params[j]? = some t → args[j]? = some v → Value.okWide C.prog W .any base t v) →
      DataW.Whole enc C.prog fn.params.toList s.vars apart W args.toList ds gs before → (DataW.weightsEach C.prog (fn.params.toList ++ s.plain.varTypes C.prog) (ds ++ gs)).all (· ≤ reachBytes) = true → X W args →
      Calls C.prog f args W fun e W' => ∃ v, e = .returned v ∧ s.post enc C.prog fn apart fresh handsOn again W args v W') :
    ReturnsInHanded a C os f .any (fun w args => (s.pre enc C.prog fn conds apart w args ∧ X w args) ∧ sizedMet enc C.prog fn (OpenSpec.ofChange s) apart w args) (s.post enc C.prog fn apart fresh handsOn again) := by
  refine returnsInHanded_of_calls own started noInit witness ?_; intro w tape i _ hsh _ hok hpre _; obtain ⟨_, _, _, fn', hfn', _, _, _, _, hval⟩ := hok; obtain rfl : fn' = fn := Option.some.inj (hfn'.symm.trans hfn); obtain ⟨⟨⟨ds, gs, before, hw, _⟩, hx⟩, hz⟩ := hpre; have hw' := DataW.Whole.of_heap (w' := w.forCall tape i) (by rfl) hw; refine (contract (w.forCall tape i) w.heap.size i.args ds gs before hsh hval hw' (hz.weights hw) (hX _ _ _ (by rfl) hx)).mono fun e W' ⟨v, he, hp⟩ => ?_
  subst he; exact ChangeSpec.post_blind hp
end
theorem size_of_shaped {w : World} (h : w.ShapedOpen Tryz.prog) : Tryz.prog.globals.size ≤ w.heap.size := by
  have e : ((((begin Tryz.prog (fun _ _ => 0) default).world).heap[Tryz.prog.globals.size - 1]?).bind Obj.row?).isSome = true := by kernel_rfl
  obtain ⟨⟨z, t⟩, hz⟩ := Option.isSome_iff_exists.1 e; obtain ⟨cs, hb, _⟩ := h.1 _ z t (by decide) hz; have := (Array.getElem?_eq_some_iff.1 hb).1; omega
theorem fixTakes_lifted (os : Os) (started : os.Started) (H : Type) (enc : TypeId × Value → H) :
    ReturnsInHanded {} Tryz.checked os 4 .any (fun w args => (Rows.fixTakesSpec.pre enc Tryz.prog Tryz.f4 [] false w args ∧ laidMetH Tryz.prog Rows.fixTakesRow.laid w) ∧ sizedMet enc Tryz.prog Tryz.f4 (OpenSpec.ofChange Rows.fixTakesSpec) false w args)
      (Rows.fixTakesSpec.post enc Tryz.prog Tryz.f4 false true false false) := by
  refine returns_shaped (C := Tryz.checked) (X := fun w _ => laidMetH Tryz.prog Rows.fixTakesRow.laid w) (fun _ _ _ hh h => h.of_heap hh) ownKnobs started (by kernel_rfl) Tryz.func4
    (ChangeSpec.witness_shaped (enc := enc) (C := Tryz.checked) (os := os) (X := fun w _ => laidMetH Tryz.prog Rows.fixTakesRow.laid w) false (World.laidAll Tryz.prog os Rows.fixTakesRow.laid) #[.slice none 0 0] 8 (World.laidAll_os _ _ _) (takes_shape os _) (by kernel_rfl) (by kernel_rfl) (by kernel_rfl) (by
      rw [MakeChecks.laidMetH_plain _ _ _ (by kernel_rfl)]; exact takes_met os _)) ?_
  intro W base args ds gs before hshape hval0 hW hwt hL; have hval : ∀ (j : Nat) t v, Tryz.f4.params[j]? = some t → args[j]? = some v → Value.okWide Tryz.prog W .any base t v := hval0; have hW' := hW; obtain ⟨p, q, hA0, hV, rfl, hfz, hnd⟩ := hW; have hA : DataW.TrodAll enc Tryz.prog W 0 (fun _ => true) true [25] args.toList ds p := hA0; obtain ⟨v0, d0, rfl, rfl, h0⟩ := trodAll_one hA; obtain ⟨rfl, rfl⟩ := trodVars_none hV; have hE : Env W := env_of_laid (l := Rows.fixTakesRow.laid) (by rw [MakeChecks.laidMetH_plain _ _ _ (by kernel_rfl)] at hL; exact hL) hshape (size_of_shaped hshape) (by simp [Rows.fixTakesRow]) (by simp [Rows.fixTakesRow]); have h0k := h0; obtain ⟨fuel, hf⟩ := h0; simp only [List.append_nil] at hW'; have hlt : ∀ x ∈ p, x.block < W.heap.size := fun x hx => by simpa using hW'.lt x hx
  have fin : ∀ W' : World, Ext W W' → Rows.fixTakesSpec.post enc Tryz.prog Tryz.f4 false true false false W #[v0] (.bool true) W' := fun W' hX =>
    ⟨_, _, _, [], _, [], hW', trodAll_mk1 (shut_bool Tryz.underlying4 true), trodAll_mk1 (Below.trod laidOutAll (by kernel_rfl) (of_decide_eq_true (by kernel_rfl)) h0k hX hlt), rfl, Below.frame hX _, fun h => by cases h⟩
  obtain ⟨a0, len, cap, rfl⟩ := okWide_slice Tryz.underlying25 (hval 0 25 v0 rfl rfl)
  rcases open_ints Tryz.underlying25 Tryz.underlying5 (by kernel_rfl) hf with ⟨hcs, hx⟩ | ⟨a, len', cap', zs, hcs, _, hl, hm, hz, hx, hcell, hwz⟩
  · simp [Value.cells] at hcs
    obtain ⟨rfl, rfl, rfl⟩ := hcs; refine (fixTakes_calls [] none 0 W hE (by simp) (by simp) (by simp) (Reads.none_ W)).mono fun e W' ⟨he, hX⟩ => ?_
    subst he; exact ⟨_, rfl, fin W' hX⟩
  · simp [Value.cells] at hcs
    obtain ⟨rfl, rfl, rfl⟩ := hcs; simp only [Prod.mk.injEq] at hx; obtain ⟨rfl, rfl⟩ := hx; simp only [if_true] at hz; have hs := sized_slice hwt (j := 0) (t := 25) rfl rfl Tryz.underlying25; have hb5 : Tryz.prog.bytesOf 5 = 1 := by kernel_rfl
    have hcap : cap ≤ 140737488351232 := by
      have h1 : (lits (H := H) .u8 (zs.take len)).length + (lits (H := H) .u8 (zs.drop len)).length = cap := by simp [lits]; omega
      have h2 : ((lits (H := H) .u8 (zs.take len)).length + (lits (H := H) .u8 (zs.drop len)).length) * Tryz.prog.bytesOf 5 ≤ 140737488351232 := hs; rw [h1, hb5] at h2; omega
    obtain ⟨bs, hbs⟩ : ∃ bs : List UInt8, bs = (zs.take len).map (fun z => UInt8.ofNat z.toNat) := ⟨_, rfl⟩
    have hlen : bs.length = len := by rw [hbs]; simp; omega
    have hrd : Reads W (some a) bs := ⟨fun _ => ⟨a, rfl, fun i hi => by
      have hi2 : i < zs.length := by omega
      rw [hcell i hi2]; have e1 : zs.getD i 0 = zs[i] := by simp [hi2]
      have e2 : bs[i] = UInt8.ofNat (zs[i]).toNat := by subst hbs; simp
      have hw := hwz zs[i] (List.getElem_mem hi2); have hw2 : 0 ≤ zs[i] ∧ zs[i] ≤ 255 := by
        have h9 : decide (0 ≤ zs[i]) && decide (zs[i] ≤ 255) := hw
        simpa using h9
      rw [e1, e2]
      congr 2
      have e3 : (zs[i]).toNat < 256 := by omega
      have e4 : (UInt8.ofNat (zs[i]).toNat).toNat = (zs[i]).toNat := by simp [Nat.mod_eq_of_lt e3]
      rw [e4]; omega⟩⟩
    subst hlen; refine (fixTakes_calls bs (some a) cap W hE (by omega) hl (by omega) hrd).mono fun e W' ⟨he, hX⟩ => ?_
    subst he; exact ⟨_, rfl, fin W' hX⟩
end
end Go.Proofs.YtdmjinlgdkgoiaaGreatDoor
