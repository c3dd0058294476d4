/- Of the layer fix: Decode, WhyBase. -/
import Derived.Test.YtdmjinlgdkgoiaaGreatDoorFmAc
import Derived.Test.YtdmjinlgdkgoiaaGreatDoorFmAn
import Derived.Test.YtdmjinlgdkgoiaaGreatDoorFmAo
import Derived.Test.YtdmjinlgdkgoiaaGreatDoorFmAu
import Derived.Handed
import Derived.Lib.LaidTab
import Derived.LaidLaws
import Derived.MakeChecks
import Derived.Test.YtdmjinlgdkgoiaaGreatDoorTie
import Derived.ProofKit
import Derived.ChangeSame
import Derived.ChangeSlices
import Derived.LaidMore
import Derived.OpenShut
import Derived.Carry
import Derived.JoinedOf
import Derived.Stop.Joined
import Derived.Lay
import Derived.SizedLaws
import Derived.LaidHandle
set_option linter.unusedVariables false
set_option linter.unusedSimpArgs false
set_option maxRecDepth 100000
namespace Go.Proofs.YtdmjinlgdkgoiaaGreatDoor
section
open Go Go.RowKit
set_option maxHeartbeats 6400000
theorem buildMsg0 (w : World) : (Instr.build 23 #[]).run Tryz.prog w = .ok (.agg (msgV noMsg)) w := run_build w 23 #[] _ (by kernel_rfl)
theorem wp_build0 {o : Oper} {a : Act} {w : World} {K : Act → World → Prop} {Q : Exit → Act → World → Prop} (ho : o.op = .build 23 #[]) (h : K (a.put o.dst (.agg (msgV noMsg))) w) : o.wp Tryz.prog a w K Q := by
  refine wp_build 23 #[] ho (by kernel_rfl) ?_; have e : (Tryz.prog.built 23 ((#[] : Array (Nat × Operand)).map fun (i, x) => (i, a.eval x)).toList).getD #[] = msgV noMsg := by kernel_rfl
  rw [e]; exact h
attribute [local go_sem ↓] loadVarMsg buildMsg0
attribute [local go_sem] ba_get loadRowMsg rowOf_new rowOf_old rowOf_drew
@[irreducible] def Stop (p : Prop) : Prop := p
theorem stop_region {P : Program} {id : Nat} {ops : Array Oper} {Q : Exit → Act → World → Prop} {a : Act} {w : World} (h : Stop ((Code.region id ops true).wp P Q a w)) : (Code.region id ops true).wp P Q a w := by unfold Stop at h; exact h
theorem stop_go {p : Prop} (h : p) : Stop p := by unfold Stop; exact h
theorem fieldsTell_count {s : List UInt8} {stop : Nat} : ∀ (fuel k : Nat) (acc l : List Fld), fieldsTell s stop fuel k acc = .inl l → l.length ≤ acc.length + fuel
  | 0, k, acc, l, h => by rw [← Sum.inl.inj h]; exact Nat.le_refl _
  | fuel + 1, k, acc, l, h => by
    unfold fieldsTell at h; split at h
    · rw [← Sum.inl.inj h]; omega
    · split at h
      · cases h
      · have := fieldsTell_count fuel _ _ l h; simp only [List.length_append, List.length_cons, List.length_nil] at this; omega
theorem split_count {s : List UInt8} {l : List Fld} (h : split s = .inl l) : l.length ≤ 1025 := by
  have h0 := (split_len h).1; unfold split at h; split at h
  · cases h
  · split at h
    · cases h
    · split at h
      · cases h
      · split at h
        · cases h
        · have := fieldsTell_count _ _ _ _ h; simp only [List.length_nil] at this; omega
theorem run_storeIn {wk : World} {g : Nat} {m : Msg} {old : Array Value} (hm : WT m) (hg : wk.heap[g]? = some (.cells old 23)) (ho : old.size = 42) : (storeCells ⟨g, 0, none⟩ (msgV m).toList).run Tryz.prog wk = .ok () (wk.setRow g (msgV m)) := by
  have hs := msgV_size hm; have h1 := oneCells hm; have := run_storeCells_at Tryz.prog g 0 23 (msgV m).toList 0 old wk hg (by simp only [Array.length_toList]; omega) (fun v hv => (Array.all_eq_true_iff_forall_mem.1 h1) v (by simpa using hv)); rw [this]; congr 2
  have h2 : old.toList.drop (0 + 0 + (msgV m).toList.length) = [] := List.drop_eq_nil_of_le (by simp only [Array.length_toList]; omega); rw [h2]; simp
theorem Ext.setRow' {W w : World} (h : Ext W w) {g : Nat} (hg : W.heap.size ≤ g) (cs : Array Value) : Ext W (w.setRow g cs) :=
  ⟨h.os, h.tape, h.output, by rw [setRow_size]; exact h.size, fun k hk => (heap_setRow_ne (by omega)).trans (h.block k hk)⟩
def decodeSays (W w' : World) (e : Ending) : Msg ⊕ (Int × Int) → Prop
  | .inr f => ∃ v, e = .returned (.tuple #[.agg (msgV noMsg), .iface 84 v]) ∧ FaultAt W w' v f.1 f.2
  | .inl m => e = .returned (.tuple #[.agg (msgV m), .nilIface])
theorem rowOf_blk {w : World} {g : Nat} {cs : Array Value} {t : TypeId} (h : w.heap[g]? = some (.cells cs t)) : rowOf w g = cs := by unfold rowOf; rw [h]
theorem results_row_tmp {P : Program} {fn : Func} {p q : Tmp} {ty : TypeId} (h : fn.results = #[.cell p ty, .tmp q]) (tmps : Array Value) (w : World) {g : Nat} {t : TypeId} {cs : Array Value} {fr : Nat × Nat} {d : TypeDesc} {v : Value}
    (hg : w.heap[g]? = some (.cells cs t fr)) (hu : P.underlying ty = some d) (hd : isRows d = true) (hi : (P.info? ty).map (·.size) = some cs.size)
    (hp : tmps[p]?.getD undef = .pointer (some ⟨g, 0, none⟩)) (hq : tmps[q]?.getD undef = v) : (results fn tmps).run P w = .ok (.tuple #[.agg cs, v]) w := by
  have k1 := run_loadVar_row w g t ty cs fr d hg hu (by cases d <;> first | rfl | (exact absurd hd (by simp [isRows]))) hi; simp [results, h, hp, hq, asAddr, k1]
def Rl.Post.set {g : Nat} {c : Obj} : (Turn g c).Post := ⟨fun _ w => w.heap[g]? = some c ∧ g < w.heap.size, fun v w w' ⟨h2, h3⟩ hr => ⟨(hr.one h3).elim (fun h => h.trans h2) id, Nat.lt_of_lt_of_le h3 hr.size⟩⟩
def NewFault (W w : World) (g : Nat) (v : Value) (a e : Int) : Prop := ∃ b, v = .pointer (some ⟨b, 0, none⟩) ∧ W.heap.size ≤ b ∧ b ≠ g ∧ w.heap[b]? = some (.cells #[.int .i64 a, .int .i64 e] 86)
theorem NewFault.turn {W w w' : World} {g : Nat} {c : Obj} {v : Value} {a e : Int} (h : NewFault W w g v a e) (hr : TurnR g c w w') : NewFault W w' g v a e := by
  obtain ⟨b, e1, h1, h2, h3⟩ := h; exact ⟨b, e1, h1, h2, (hr.block b (Array.getElem?_eq_some_iff.1 h3).1 h2).trans h3⟩
theorem NewFault.at {W w : World} {g : Nat} {v : Value} {a e : Int} (h : NewFault W w g v a e) : FaultAt W w v a e := by
  obtain ⟨b, e1, h1, h2, h3⟩ := h; exact ⟨b, e1, h1, h3⟩
def Rl.Post.ptr {g : Nat} {c : Obj} (W : World) (a e : Int) : (Turn g c).Post := ⟨fun v w => NewFault W w g v a e, fun v w w' h hr => h.turn hr⟩
def Rl.Post.fault {g : Nat} {c : Obj} (W : World) (a e : Int) : (Turn g c).Post := ⟨fun v w => ∃ x, v = .iface 84 x ∧ NewFault W w g x a e, fun v w w' ⟨x, e1, h⟩ hr => ⟨x, e1, h.turn hr⟩⟩
theorem gives_build0 {dst : Option Tmp} {tyo : TypeId} {pos : String} {after : Array Edge} {gd : Option (Nat × Bool)} {ρ : Operand → Value} {w : World} {R : Value → World → Prop} (h : R (.agg (msgV noMsg)) w) :
    Gives Tryz.prog { dst, op := .build 23 #[], type := tyo, pos, after, guard := gd } ρ w R := by
  unfold Gives; have e : (execOp ρ { dst, op := .build 23 #[], type := tyo, pos, after, guard := gd }).run Tryz.prog w = .ok (.value (.agg (msgV noMsg))) w := by kernel_rfl
  rw [e]; exact h
theorem gives_turn {dst : Option Tmp} {x y : Operand} {tyo : TypeId} {pos : String} {after : Array Edge} {gd : Option (Nat × Bool)} {ρ : Operand → Value} {g : Nat} {M : Msg} {old : Array Value} {w0 w : World} (hr : TurnR g (.cells (msgV M) 23) w0 w)
    (hx : ρ x = .pointer (some ⟨g, 0, none⟩)) (hy : ρ y = .agg (msgV M)) (hM : WT M) (hg : w0.heap[g]? = some (.cells old 23)) (ho : old.size = 42 := by rfl) :
    Gives Tryz.prog { dst, op := .store 23 x y, type := tyo, pos, after, guard := gd } ρ w (fun v w' => TurnR g (.cells (msgV M) 23) w w' ∧ w'.heap[g]? = some (.cells (msgV M) 23) ∧ g < w'.heap.size) := by
  have hlt := (Array.getElem?_eq_some_iff.1 hg).1; have hs := msgV_size hM; have key : ∀ old : Array Value, old.size = 42 → w.heap[g]? = some (.cells old 23) → Gives Tryz.prog { dst, op := .store 23 x y, type := tyo, pos, after, guard := gd } ρ w (fun v w' => TurnR g (.cells (msgV M) 23) w w' ∧ w'.heap[g]? = some (.cells (msgV M) 23) ∧ g < w'.heap.size) := by
    intro old ho hb; refine gives_store g (msgV M) old 23 hx hy hb (by rw [hs]; kernel_rfl) (by rw [ho, hs]) (oneCells hM) ⟨⟨rfl, rfl, rfl, by rw [setRow_size]; exact Nat.le_refl _, fun k h1 h2 => heap_setRow_ne h2, fun _ => Or.inr (heap_setRow hb)⟩, heap_setRow hb, ?_⟩; rw [setRow_size]; exact Nat.lt_of_lt_of_le hlt hr.size
  rcases hr.one hlt with h | h
  · exact key _ ho (h.trans hg)
  · exact key _ hs h
theorem decode_ret {w1 : World} {a' : Act} {g : Nat} {m : Msg} {v : Value} {R : Ending → World → Prop} (hm : WT m) (h2 : w1.heap[g]? = some (.cells (msgV m) 23)) (e2 : a'.eval (.tmp 2) = .pointer (some ⟨g, 0, none⟩)) (e3 : a'.eval (.tmp 3) = v) (hd : a'.defers = [])
    (hR : R (.returned (.tuple #[.agg (msgV m), v])) w1) : bodyPost Tryz.prog Tryz.f17 R .ret a' w1 := by
  obtain ⟨d, hd1, hd2⟩ := isStruct23; have hs := msgV_size hm; exact bodyPost_ret (results_row_tmp rfl a'.tmps w1 h2 hd1 hd2 (by rw [hs]; kernel_rfl) (by simpa [Act.eval] using e2) (by simpa [Act.eval] using e3)) hd hR
theorem decode_calls (s : List UInt8) (A : Option Addr) (cap : Nat) (w : World) (hE : Env w) (hs : s.length ≤ 140737488355328) (hcap : s.length ≤ cap) (hcap2 : cap ≤ 9223372036854775807) (hb : Reads w A s) :
    Calls Tryz.prog 17 #[.slice A s.length cap] w fun e w' => decodeSays w w' e (decode s) ∧ Ext w w' := by
  obtain ⟨R, hR⟩ : ∃ R, decode s = R := ⟨_, rfl⟩
  rw [hR]; unfold decode at hR; have hX1 : Ext w (w.alloc (.cells (msgV noMsg) 23)) := (Ext.refl w).alloc _; have hn1 := heap_alloc_new w (.cells (msgV noMsg) 23); have hsplit := split_calls s A cap (w.alloc (.cells (msgV noMsg) 23)) (hE.ext hX1) hs hcap hcap2 (hb.ext hX1); have hsz1 : (w.alloc (.cells (msgV noMsg) 23)).heap.size = w.heap.size + 1 := by simp
  have hw5 : ∀ w5 : World, Ext w5 ((w5.alloc (.cells (msgV noMsg) 23)).alloc (.cells #[.int .i64 0, .int .i64 0, .int .i64 0] 81)) ∧ ((w5.alloc (.cells (msgV noMsg) 23)).alloc (.cells #[.int .i64 0, .int .i64 0, .int .i64 0] 81)).heap[w5.heap.size]? = some (.cells (msgV noMsg) 23) ∧
      ((w5.alloc (.cells (msgV noMsg) 23)).alloc (.cells #[.int .i64 0, .int .i64 0, .int .i64 0] 81)).heap[w5.heap.size + 1]? = some (.cells #[.int .i64 0, .int .i64 0, .int .i64 0] 81) := fun w5 =>
    ⟨((Ext.refl _).alloc _).alloc _, ((Ext.refl _).alloc _).heap (heap_alloc_new w5 _), by
      have := heap_alloc_new (w5.alloc (.cells (msgV noMsg) 23)) (.cells #[.int .i64 0, .int .i64 0, .int .i64 0] 81); simpa using this⟩
  have hsz0 : (msgV noMsg).size = 42 := by decide
  have hzero : msgV noMsg = #[.int .i64 0, .string ⟨#[]⟩, .string ⟨#[]⟩, .int .i64 0, .bool false, .int .i64 0, .int .i64 0, .int .i64 0, .bool false, .string ⟨#[]⟩, .int .i64 0, .int .i64 0, .int .i64 0, .bool false, .int .i64 0, .int .i64 0, .int .i64 0, .int .i64 0, .string ⟨#[]⟩, .string ⟨#[]⟩, .string ⟨#[]⟩, .string ⟨#[]⟩, .string ⟨#[]⟩, .int .i64 0, .int .i64 0, .int .i64 0, .int .i64 0, .int .i64 0, .int .i64 0, .int .i64 0, .int .i64 0, .int .i64 0, .int .i64 0, .int .i64 0, .int .i64 0, .int .i64 0, .int .i64 0, .int .i64 0, .int .i64 0, .int .i64 0, .int .i64 0, .int .i64 0] := rfl; rw [hzero] at hw5; have HSZ0 := Lib.hid hsz0; have HW5 := Lib.hid hw5; have HSPLIT := Lib.hid hsplit; have HX1 := Lib.hid hX1; have HN1 := Lib.hid hn1; have HSZ1 := Lib.hid hsz1; have HE := Lib.hid hE; have HNOW : RowKit.Hid (WT noMsg) := Lib.hid (by decide); clear hX1 hn1 hb hE hsplit hsz1 hw5 hsz0 hzero; rcases hsp : split s with l | f
  · have HSP := Lib.hid hsp; rw [hsp] at HSPLIT hR; dsimp only at hR; obtain ⟨L, hL⟩ : ∃ n, s.length = n := ⟨_, rfl⟩
    rw [hL] at HSPLIT hs hcap ⊢; clear hsp hL; go_enter Tryz.func17, Tryz.ntmps17
    go_wp2_with fail; refine HSPLIT.out.mono ?_; rintro e w2 ⟨⟨v, rfl, hown⟩, hE2⟩; have HX2 := Lib.hid (HX1.out.trans hE2); have HN2 := Lib.hid (hE2.heap HN1.out); have HREAD := Lib.hid (fixRead_calls v l w2 (HE.out.ext HX2.out) hown.reads (by have := split_count HSP.out; omega) (fun f hf => by have := split_len HSP.out; have := this.2 f hf; omega)); obtain ⟨⟨M, f1, f2, f3⟩, hx⟩ : ∃ x, readAll l = x := ⟨_, rfl⟩
    rw [hx] at HREAD hR; clear hx hown hE2 HX1 HN1 HSPLIT; go_wp2_with fail; refine HREAD.out.mono ?_; rintro e w5 ⟨rfl, hE5, hwt⟩; unfold flawV; dsimp only at hwt hR ⊢; have hwt : WT M := hwt; have HX5 := Lib.hid (HX2.out.trans hE5); have HN5 := Lib.hid (hE5.heap HN2.out); have HWT := Lib.hid hwt; have hsz := msgV_size hwt; go_wp2_with fail; obtain ⟨hA1, hb6, hb6f⟩ := HW5.out w5; generalize hWW : ((w5.alloc (.cells #[.int .i64 0, .string ⟨#[]⟩, .string ⟨#[]⟩, .int .i64 0, .bool false, .int .i64 0, .int .i64 0, .int .i64 0, .bool false, .string ⟨#[]⟩, .int .i64 0, .int .i64 0, .int .i64 0, .bool false, .int .i64 0, .int .i64 0, .int .i64 0, .int .i64 0, .string ⟨#[]⟩, .string ⟨#[]⟩, .string ⟨#[]⟩, .string ⟨#[]⟩, .string ⟨#[]⟩, .int .i64 0, .int .i64 0, .int .i64 0, .int .i64 0, .int .i64 0, .int .i64 0, .int .i64 0, .int .i64 0, .int .i64 0, .int .i64 0, .int .i64 0, .int .i64 0, .int .i64 0, .int .i64 0, .int .i64 0, .int .i64 0, .int .i64 0, .int .i64 0, .int .i64 0] 23)).alloc (.cells #[.int .i64 0, .int .i64 0, .int .i64 0] 81)) = w6 at hA1 hb6 hb6f ⊢; clear hWW; rw [run_storeIn hwt hb6 rfl]; have hX6 := HX5.out.trans hA1; have hN6 := hA1.heap HN5.out; have hlt : w.heap.size < w5.heap.size := (Array.getElem?_eq_some_iff.1 HN5.out).1; have hX7 := hX6.setRow' (g := w5.heap.size) (by omega) (msgV M); have hN7 := (heap_setRow_ne (cells := msgV M) (g := w5.heap.size) (by omega)).trans hN6; have hb7 := heap_setRow (cells := msgV M) hb6
    have hb7f := (heap_setRow_ne (cells := msgV M) (g := w5.heap.size) (by omega)).trans hb6f; obtain ⟨hq, hz⟩ := blk_facts hb7f; have q0 := hq 0; have q1 := hq 1; have q2 := hq 2; have z0 := hz 0; have z1 := hz 1; have z2 := hz 2; simp only [List.getElem?_toArray, List.getElem?_cons_zero, List.getElem?_cons_succ] at q0 q1 q2; have hle : w.heap.size ≤ w5.heap.size + 1 := by omega
    have hX8 := ((hX7.setCell (p := ⟨w5.heap.size + 1, 0, none⟩) hle (.int .i64 f1)).setCell (p := ⟨w5.heap.size + 1, 1, none⟩) hle (.int .i64 f2)).setCell (p := ⟨w5.heap.size + 1, 2, none⟩) hle (.int .i64 f3); have hne : ∀ k, k ≠ w5.heap.size + 1 → ∀ (t : World), ((((t.setCell ⟨w5.heap.size + 1, 0, none⟩ (.int .i64 f1)).setCell ⟨w5.heap.size + 1, 1, none⟩ (.int .i64 f2)).setCell ⟨w5.heap.size + 1, 2, none⟩ (.int .i64 f3))).heap[k]? = t.heap[k]? := fun k hk t => by
      rw [Below.heap_setCell _ _ _ _ hk, Below.heap_setCell _ _ _ _ hk, Below.heap_setCell _ _ _ _ hk]
    have hN8 := (hne _ (by omega) _).trans hN7; have hb8 := (hne _ (by omega) _).trans hb7; have hb8f := set_blk (o := 2) (u := .int .i64 f3) (set_blk (o := 1) (u := .int .i64 f2) (set_blk (o := 0) (u := .int .i64 f1) hb7f)); obtain ⟨hr, _⟩ := blk_facts hb8f; have r0 := hr 0; have r1 := hr 1; simp at r0 r1; have hrow := rowOf_blk hb8; have HX8 := Lib.hid hX8; have HN8 := Lib.hid hN8; have HB8 := Lib.hid hb8; have HR0 := Lib.hid r0; have HR1 := Lib.hid r1; have HLT := Lib.hid hlt; clear hA1 hb6 hX6 hN6 hb6f hX7 hN7 hb7 hb7f hq hz hX8 hne hN8 hb8 hb8f hr r1 HX5 HN5 HX2 HN2 HREAD; by_cases h0 : f1 = 0
    · subst h0; have e : R = .inl M := by rw [← hR]; rfl
      subst e; clear hR; have hst2 := run_storeIn HWT.out HN8.out HSZ0.out; have HX9 := Lib.hid (Ext.setRow' HX8.out (g := w.heap.size) (Nat.le_refl _) (msgV M)); have HN9 := Lib.hid (heap_setRow (cells := msgV M) HN8.out); go_wp2; exact decode_ret HWT.out HN9.out (by rfl) (by rfl) (by rfl) ⟨rfl, HX9.out⟩
    · have h1 : (f1 != 0) = true := by simpa using h0
      have e : R = .inr (f2, f1) := by rw [← hR]; simp only [h1, if_true]
      subst e; clear hR; go_wp2_with (refine stop_region ?_); refine stop_go ?_; refine wp_region_rsteps (Turn w.heap.size (.cells (msgV noMsg) 23)) (fun _ => by kernel_rfl) [.is (.agg (msgV noMsg)), .is (.pointer (some ⟨w5.heap.size + 1, 1, none⟩)), .is (.int .i64 f2), .is (.pointer (some ⟨w5.heap.size + 1, 0, none⟩)), .is (.int .i64 f1), .is (.agg #[.int .i64 f2, .int .i64 f1]), .ptr w f2 f1, .fault w f2 f1, .set, .fault w f2 f1] (by kernel_rfl) ?_ ?_
      · refine And.intro ?_ (And.intro ?_ (And.intro ?_ (And.intro ?_ (And.intro ?_ (And.intro ?_ (And.intro ?_ (And.intro ?_ (And.intro ?_ (And.intro ?_ (True.intro))))))))))
        · intro ρ w' hE hB hD; clear hB hD; refine .inl ⟨rfl, ?_⟩; change Gives _ _ _ _ _; exact gives_build0 ⟨Rl.refl _ _, rfl⟩
        · intro ρ w' hE hB hD; have e7 : ρ (.tmp 7) = _ := hB (.tmp 7) rfl; clear hB hD; refine .inl ⟨rfl, ?_⟩; unfold Gives; go_simp; first | done | exact yr1 | exact yr0 | exact yr2
        · intro ρ w' hE hB hD; have q := hE.cell HR1.out (by have := HLT.out; omega); have e26 : ρ (.tmp 26) = .pointer (some ⟨w5.heap.size + 1, 1, none⟩) := hD 1 26 rfl rfl; clear hB hD; refine .inl ⟨rfl, ?_⟩; unfold Gives; go_simp; first | done | exact yr1 | exact yr0 | exact yr2
        · intro ρ w' hE hB hD; have e7 : ρ (.tmp 7) = _ := hB (.tmp 7) rfl; clear hB hD; refine .inl ⟨rfl, ?_⟩; unfold Gives; go_simp; first | done | exact yr1 | exact yr0 | exact yr2
        · intro ρ w' hE hB hD; have q := hE.cell HR0.out (by have := HLT.out; omega); have e28 : ρ (.tmp 28) = .pointer (some ⟨w5.heap.size + 1, 0, none⟩) := hD 3 28 rfl rfl; clear hB hD; refine .inl ⟨rfl, ?_⟩; unfold Gives; go_simp; first | done | exact yr1 | exact yr0 | exact yr2
        · intro ρ w' hE hB hD; have e27 : ρ (.tmp 27) = .int .i64 f2 := hD 2 27 rfl rfl; have e29 : ρ (.tmp 29) = .int .i64 f1 := hD 4 29 rfl rfl; clear hB hD; refine .inl ⟨rfl, ?_⟩; unfold Gives; go_simp; first | done | exact yr1 | exact yr0 | exact yr2
        · intro ρ w' hE hB hD; have e30 : ρ (.tmp 30) = .agg #[.int .i64 f2, .int .i64 f1] := hD 5 30 rfl rfl; clear hB hD; refine .inl ⟨rfl, ?_⟩; unfold Gives; go_simp; exact ⟨TurnR.ofExt ((Ext.refl _).alloc _), w'.heap.size, rfl, by have := (hE.ext HX8.out (Nat.le_refl _)).size; omega, by have := HLT.out; have := hE.size; have := (Array.getElem?_eq_some_iff.1 HB8.out).1; omega, heap_alloc_new _ _⟩
        · intro ρ w' hE hB hD; have r31 := hD 6 31 rfl rfl; change Rl.Post.p (.ptr w f2 f1) _ _ at r31; clear hB hD; refine .inl ⟨rfl, ?_⟩; unfold Gives; obtain ⟨b, eb, h1, h2, h3⟩ := r31; have e31 := eb; go_simp; exact ⟨Rl.refl _ _, _, rfl, b, rfl, h1, h2, h3⟩
        · intro ρ w' hE hB hD; have e2 : ρ (.tmp 2) = _ := hB (.tmp 2) rfl; have e25 : ρ (.tmp 25) = .agg (msgV noMsg) := hD 0 25 rfl rfl; clear hB hD; refine .inl ⟨rfl, ?_⟩; exact gives_turn hE e2 e25 HNOW.out HN8.out
        · intro ρ w' hE hB hD; have r32 := hD 7 32 rfl rfl; change Rl.Post.p (.fault w f2 f1) _ _ at r32; clear hB hD; refine .inl ⟨rfl, ?_⟩; unfold Gives; obtain ⟨x, ex, hx⟩ := r32; have e32 := ex; go_simp; exact ⟨Rl.refl _ _, x, rfl, hx⟩
      · intro a' wz hE1 hd' hs' hB' hP' hN'; obtain ⟨_, b2⟩ := hN' 8 rfl; change Rl.Post.p Rl.Post.set _ _ at b2; have e2 := hB' (.tmp 2) rfl; have e3 := hP' 9 3 rfl; change Rl.Post.p (Rl.Post.fault w f2 f1) _ _ at e3; obtain ⟨v3, ev, hv⟩ := e3; clear hB' hP' hN' hs'; go_wp2; exact decode_ret HNOW.out b2.1 e2 ev hd' ⟨⟨v3, rfl, hv.at⟩, hE1.ext HX8.out (Nat.le_refl _)⟩
  · have HSP := Lib.hid hsp; rw [hsp] at HSPLIT hR; dsimp only at hR; subst hR; obtain ⟨at_, er⟩ := f; obtain ⟨L, hL⟩ : ∃ n, s.length = n := ⟨_, rfl⟩
    rw [hL] at HSPLIT hs hcap ⊢; clear hsp hL HSP; go_enter Tryz.func17, Tryz.ntmps17
    go_wp2_with fail; refine HSPLIT.out.mono ?_; rintro e w2 ⟨⟨v, rfl, hv⟩, hE2⟩; have HX2 := Lib.hid (HX1.out.trans hE2); have hN2 := hE2.heap HN1.out; have HV := Lib.hid (hv.more HX1.out); have hst2 := run_storeIn HNOW.out hN2 HSZ0.out; have HX9 := Lib.hid (HX2.out.setRow' (g := w.heap.size) (Nat.le_refl _) (msgV noMsg)); have HN9 := Lib.hid (heap_setRow (cells := msgV noMsg) hN2); have hlt : w.heap.size < w2.heap.size := (Array.getElem?_eq_some_iff.1 hN2).1; have HV9 : RowKit.Hid (FaultAt w (w2.setRow w.heap.size (msgV noMsg)) v at_ er) := Lib.hid (by
      obtain ⟨g, e, h1, h2⟩ := hv.is; refine ⟨g, e, ?_, ?_⟩
      · have := HX1.out.size; omega
      · rw [heap_setRow_ne ?_]
        · exact h2
        · have := HSZ1.out; omega)
    clear hE2 hN2 hv HX1 HN1 HSPLIT; go_wp2_with fail; refine wp_build0 rfl ?_; go_wp2; exact decode_ret HNOW.out HN9.out (by rfl) (by rfl) (by rfl) ⟨⟨v, rfl, HV9.out⟩, HX9.out⟩
end
section
open Go Go.RowKit
set_option maxHeartbeats 1600000
structure WhySay (w w' : World) (e : Ending) (x : Int × Int × Msg) : Prop where
  is : e = .returned (.tuple #[.int .i64 x.1, .int .i64 x.2.1, .agg (msgV x.2.2)])
  ext : Ext w w'
  wt : WT x.2.2
theorem results_two_row {P : Program} {fn : Func} {p q r : Tmp} {ty : TypeId} (h : fn.results = #[.tmp p, .tmp q, .cell r ty]) (tmps : Array Value) (w : World) {g : Nat} {t : TypeId} {cs : Array Value} {fr : Nat × Nat} {d : TypeDesc} {x y : Value}
    (hg : w.heap[g]? = some (.cells cs t fr)) (hu : P.underlying ty = some d) (hd : isRows d = true) (hi : (P.info? ty).map (·.size) = some cs.size)
    (hp : tmps[p]?.getD undef = x) (hq : tmps[q]?.getD undef = y) (hr : tmps[r]?.getD undef = .pointer (some ⟨g, 0, none⟩)) : (results fn tmps).run P w = .ok (.tuple #[x, y, .agg cs]) w := by
  have k1 := run_loadVar_row w g t ty cs fr d hg hu (by cases d <;> first | rfl | (exact absurd hd (by simp [isRows]))) hi; simp [results, h, hp, hq, hr, asAddr, k1]
theorem why_ret {w1 : World} {a' : Act} {g : Nat} {x y : Int} {m : Msg} {R : Ending → World → Prop} (hm : WT m) (hb : w1.heap[g]? = some (.cells (msgV m) 23)) (e2 : a'.eval (.tmp 2) = .int .i64 x) (e3 : a'.eval (.tmp 3) = .int .i64 y) (e4 : a'.eval (.tmp 4) = .pointer (some ⟨g, 0, none⟩)) (hd : a'.defers = [])
    (hR : R (.returned (.tuple #[.int .i64 x, .int .i64 y, .agg (msgV m)])) w1) : bodyPost Tryz.prog Tryz.f26 R .ret a' w1 := by
  obtain ⟨d, hd1, hd2⟩ := isStruct23; have hs := msgV_size hm; exact bodyPost_ret (results_two_row rfl a'.tmps w1 hb hd1 hd2 (by rw [hs]; kernel_rfl) (by simpa [Act.eval] using e2) (by simpa [Act.eval] using e3) (by simpa [Act.eval] using e4)) hd hR
end
end Go.Proofs.YtdmjinlgdkgoiaaGreatDoor
