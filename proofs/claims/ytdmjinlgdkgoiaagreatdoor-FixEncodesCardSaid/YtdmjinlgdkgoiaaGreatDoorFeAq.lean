/- Of the layer fix: Form5, Form6. -/
import Derived.Test.YtdmjinlgdkgoiaaGreatDoorFeAp
set_option linter.unusedVariables false
set_option linter.unusedSimpArgs false
set_option maxRecDepth 100000
namespace Go.Proofs.YtdmjinlgdkgoiaaGreatDoor
section
open Go Go.RowKit
set_option maxHeartbeats 1600000
attribute [local go_sem] ba_get
theorem IsForm.open {D : Nat → Prop} {w : World} {v : Value} {num : Int} {f : Form} {k : Nat} (h : IsForm D w v num f k) : ∃ fa ca fb cb fc cc, v = .agg #[.int .i64 num, .func (.func fa) #[] ca, .func (.func fb) #[] cb, .func (.func fc) #[] cc] := by
 obtain ⟨a, b, c, e, ⟨fa, ca, ea, _⟩, ⟨fb, cb, eb, _⟩, ⟨fc, cc, ec, _⟩⟩ := h.is; exact ⟨fa, ca, fb, cb, fc, cc, by rw [e, ea, eb, ec]⟩
def WordsAt (w : World) (b : Nat) (ws : List (List UInt8)) : Prop := ∀ (j : Nat) (h : j < ws.length), w.cell? ⟨b, j, none⟩ = some (.string ⟨(ws[j]).toArray⟩)
theorem WordsAt.ext {w w' : World} {b : Nat} {ws : List (List UInt8)} (h : WordsAt w b ws) (hE : Ext w w') : WordsAt w' b ws := fun j hj => hE.cell (h j hj)
theorem WordsAt.keep {D : Nat → Prop} {w w' : World} {b : Nat} {ws : List (List UInt8)} (h : WordsAt w b ws) (hE : Keep D w w') (hb : ¬ D b) : WordsAt w' b ws := fun j hj => hE.cell (h j hj) hb
def More (D : Nat → Prop) (B : Nat) : Nat → Prop := fun k => D k ∨ k = B
theorem More.old {D : Nat → Prop} {w w' : World} {B : Nat} (h : Old D w) (hs : w.heap.size ≤ B) (hB : B < w'.heap.size) : Old (More D B) w' := fun k hk => by
 rcases hk with hk | rfl
 · have := h k hk; omega
 · exact hB
theorem More.no {D : Nat → Prop} {w : World} {B k : Nat} (h : Old D w) (hk : w.heap.size ≤ k) (hne : k ≠ B) : ¬ More D B k := fun h2 => by
 rcases h2 with h2 | h2
 · have := h k h2; omega
 · exact hne h2
theorem Keep.unset {D : Nat → Prop} {w w' : World} {B o : Nat} {u : Value} (hB : D B) (h : Keep D (w.setCell ⟨B, o, none⟩ u) w') : Keep D w w' := by
 refine ⟨h.os, h.tape, h.output, ?_, fun k hk hd => ?_⟩
 · have := h.size; simpa [World.setCell] using this
 · have hne : k ≠ B := fun e => hd (e ▸ hB)
   rw [h.block k (by simpa [World.setCell] using hk) hd]; exact Below.heap_setCell w ⟨B, o, none⟩ u k hne
theorem set_blk {w : World} {B o : Nat} {u : Value} {cs : Array Value} {T : TypeId} (h : w.heap[B]? = some (.cells cs T)) : (w.setCell ⟨B, o, none⟩ u).heap[B]? = some (.cells (cs.setIfInBounds o u) T) := by
 simp only [World.setCell, Array.getElem?_modify, h, if_true, Option.map_some]; rfl
theorem laid_heap {w : World} {B : Nat} {x0 x1 x2 x3 a b c d : Value} {T : TypeId} (h : w.heap[B]? = some (.cells #[x0, x1, x2, x3] T)) :
 ((((w.setCell ⟨B, 0, none⟩ a).setCell ⟨B, 1, none⟩ b).setCell ⟨B, 2, none⟩ c).setCell ⟨B, 3, none⟩ d).heap[B]? = some (.cells #[a, b, c, d] T) := set_blk (set_blk (set_blk (set_blk h)))
theorem IsForm.laid {D : Nat → Prop} {w : World} {v : Value} {num : Int} {f : Form} {k B : Nat} {a b c d : Value} (h : IsForm (More D B) w v num f k) :
 IsForm D ((((w.setCell ⟨B, 0, none⟩ a).setCell ⟨B, 1, none⟩ b).setCell ⟨B, 2, none⟩ c).setCell ⟨B, 3, none⟩ d) v num f k :=
 h.after fun w' hw' => (((Keep.sub hw' (D' := More D B) (fun _ hk => Or.inl hk)).unset (Or.inr rfl)).unset (Or.inr rfl)).unset (Or.inr rfl) |>.unset (Or.inr rfl)
theorem Ext.laid {w w1 : World} {B : Nat} {a b c d : Value} (h : Ext w w1) (hB : w.heap.size ≤ B) :
 Ext w ((((w1.setCell ⟨B, 0, none⟩ a).setCell ⟨B, 1, none⟩ b).setCell ⟨B, 2, none⟩ c).setCell ⟨B, 3, none⟩ d) :=
 ((((h.setCell (by exact hB) _).setCell (by exact hB) _).setCell (by exact hB) _).setCell (by exact hB) _)
theorem numeralForm (D : Nat → Prop) (num : Int) (q k : Nat) (lo hi : Int) (h0 : 0 ≤ lo) (hk : tys[k]? = some .I) (hq : PtrFn q k) (w : World) (hD : Old D w) :
 Calls Tryz.prog 178 #[.int .i64 num, .func (.func q) #[] #[], .int .i64 lo, .int .i64 hi] w fun e w' => Returns e (fun v => IsForm D w' v num (.numeral lo hi) k) ∧ Ext w w' := by
 have hD := Lib.hid hD; go_enter Tryz.func178, Tryz.ntmps178
 go_wp2_with fail; refine (numbers (More D (w.heap.size + 1 + 1)) num q k _ _ _ _ (.numeral lo hi) (num_numeral lo hi h0) hk hq _ (More.old hD.out (by omega) (by simp)) ?_ ?_).mono ?_
 · exact fn_print _ _ _ (fun n _ => rfl)
 · exact ⟨_, _, rfl, fun args w => by go_simp, fun w' hE hV s hs => by simpa [Form.readN] using numeral1_calls _ _ lo hi s hs w' hV (hE.cell (by go_simp) (More.no hD.out (by omega) (by omega))) (hE.cell (by go_simp) (More.no hD.out (by omega) (by omega)))⟩
 rintro e w1 ⟨⟨v, rfl, hv⟩, hE⟩; obtain ⟨fa, ca, fb, cb, fc, cc, rfl⟩ := hv.open; have HV := Lib.hid hv; clear hv; have hblk := hE.heap (heap_alloc_new _ _)
 try simp only [World.size_alloc] at hblk
 have hBw : w.heap.size ≤ w.heap.size + 1 + 1 := by omega
 have hX0 : Ext w w1 := (((Ext.refl w).alloc _) |>.alloc _ |>.alloc _).trans hE; have hf := laid_heap (a := .int .i64 num) (b := .func (.func fa) #[] ca) (c := .func (.func fb) #[] cb) (d := .func (.func fc) #[] cc) hblk; have hlaid := HV.out.laid (a := .int .i64 num) (b := .func (.func fa) #[] ca) (c := .func (.func fb) #[] cb) (d := .func (.func fc) #[] cc); have hext := hX0.laid (a := .int .i64 num) (b := .func (.func fa) #[] ca) (c := .func (.func fb) #[] cb) (d := .func (.func fc) #[] cc) hBw; have HX := Lib.hid (And.intro hlaid hext); clear hlaid hext; generalize hBe : w.heap.size + 1 + 1 = B at hblk hf HX ⊢; have HBE := Lib.hid hBe; clear hBe hBw HV; obtain ⟨rq, _⟩ := blk_facts hf; have r0 := rq 0; have r1 := rq 1; have r2 := rq 2; have r3 := rq 3; obtain ⟨hq, hz⟩ := blk_facts hblk; have q0 := hq 0; have q1 := hq 1; have q2 := hq 2; have q3 := hq 3; have z0 := hz 0; have z1 := hz 1; have z2 := hz 2; have z3 := hz 3; simp at q0 q1 q2 q3 r0 r1 r2 r3; have HR := Lib.hid (And.intro r0 (And.intro r1 (And.intro r2 r3))); clear hq hz hblk hf rq r0 r1 r2 r3 hE hX0; go_wp2; obtain ⟨r0, r1, r2, r3⟩ := HR.out; have hlaid := HX.out; generalize (((w1.setCell ⟨B, 0, none⟩ (.int .i64 num)).setCell ⟨B, 1, none⟩ (.func (.func fa) #[] ca)).setCell ⟨B, 2, none⟩ (.func (.func fb) #[] cb)).setCell ⟨B, 3, none⟩ (.func (.func fc) #[] cc) = w2 at *
 refine bodyPost_ret (v := .agg #[.int .i64 num, .func (.func fa) #[] ca, .func (.func fb) #[] cb, .func (.func fc) #[] cc]) (by simp [results, Tryz.results178, go_sem, r0, r1, r2, r3]) rfl ⟨⟨_, rfl, hlaid.1⟩, hlaid.2⟩
theorem numeralFormL (D : Nat → Prop) (num : Int) (q k : Nat) (lo hi : Int) (h0 : 0 ≤ lo) (hk : tys[k]? = some .I) (hq : PtrFn q k) (w : World) (hD : Old D w) :
 Calls Tryz.prog 275 #[.int .i64 num, .func (.func q) #[] #[], .int .i64 lo, .int .i64 hi] w fun e w' => Returns e (fun v => IsForm D w' v num (.numeral lo hi) k) ∧ Ext w w' := by
 have hD := Lib.hid hD; go_enter Tryz.func275, Tryz.ntmps275
 go_wp2_with fail; refine (numbersL (More D (w.heap.size + 1 + 1)) num q k _ _ _ _ (.numeral lo hi) (num_numeral lo hi h0) hk hq _ (More.old hD.out (by omega) (by simp)) ?_ ?_).mono ?_
 · exact fn_print _ _ _ (fun n _ => rfl)
 · exact ⟨_, _, rfl, fun args w => by go_simp, fun w' hE hV s hs => by simpa [Form.readN] using numeral1L_calls _ _ lo hi s hs w' hV (hE.cell (by go_simp) (More.no hD.out (by omega) (by omega))) (hE.cell (by go_simp) (More.no hD.out (by omega) (by omega)))⟩
 rintro e w1 ⟨⟨v, rfl, hv⟩, hE⟩; obtain ⟨fa, ca, fb, cb, fc, cc, rfl⟩ := hv.open; have HV := Lib.hid hv; clear hv; have hblk := hE.heap (heap_alloc_new _ _)
 try simp only [World.size_alloc] at hblk
 have hBw : w.heap.size ≤ w.heap.size + 1 + 1 := by omega
 have hX0 : Ext w w1 := (((Ext.refl w).alloc _) |>.alloc _ |>.alloc _).trans hE; have hf := laid_heap (a := .int .i64 num) (b := .func (.func fa) #[] ca) (c := .func (.func fb) #[] cb) (d := .func (.func fc) #[] cc) hblk; have hlaid := HV.out.laid (a := .int .i64 num) (b := .func (.func fa) #[] ca) (c := .func (.func fb) #[] cb) (d := .func (.func fc) #[] cc); have hext := hX0.laid (a := .int .i64 num) (b := .func (.func fa) #[] ca) (c := .func (.func fb) #[] cb) (d := .func (.func fc) #[] cc) hBw; have HX := Lib.hid (And.intro hlaid hext); clear hlaid hext; generalize hBe : w.heap.size + 1 + 1 = B at hblk hf HX ⊢; have HBE := Lib.hid hBe; clear hBe hBw HV; obtain ⟨rq, _⟩ := blk_facts hf; have r0 := rq 0; have r1 := rq 1; have r2 := rq 2; have r3 := rq 3; obtain ⟨hq, hz⟩ := blk_facts hblk; have q0 := hq 0; have q1 := hq 1; have q2 := hq 2; have q3 := hq 3; have z0 := hz 0; have z1 := hz 1; have z2 := hz 2; have z3 := hz 3; simp at q0 q1 q2 q3 r0 r1 r2 r3; have HR := Lib.hid (And.intro r0 (And.intro r1 (And.intro r2 r3))); clear hq hz hblk hf rq r0 r1 r2 r3 hE hX0; go_wp2; obtain ⟨r0, r1, r2, r3⟩ := HR.out; have hlaid := HX.out; generalize (((w1.setCell ⟨B, 0, none⟩ (.int .i64 num)).setCell ⟨B, 1, none⟩ (.func (.func fa) #[] ca)).setCell ⟨B, 2, none⟩ (.func (.func fb) #[] cb)).setCell ⟨B, 3, none⟩ (.func (.func fc) #[] cc) = w2 at *
 refine bodyPost_ret (v := .agg #[.int .i64 num, .func (.func fa) #[] ca, .func (.func fb) #[] cb, .func (.func fc) #[] cc]) (by simp [results, Tryz.results275, go_sem, r0, r1, r2, r3]) rfl ⟨⟨_, rfl, hlaid.1⟩, hlaid.2⟩
theorem timedForm (D : Nat → Prop) (num : Int) (q k : Nat) (lo : Int) (h0 : 0 ≤ lo) (hk : tys[k]? = some .I) (hq : PtrFn q k) (w : World) (hD : Old D w) :
 Calls Tryz.prog 182 #[.int .i64 num, .func (.func q) #[] #[], .int .i64 lo] w fun e w' => Returns e (fun v => IsForm D w' v num (.timed lo) k) ∧ Ext w w' := by
 have hD := Lib.hid hD; go_enter Tryz.func182, Tryz.ntmps182
 go_wp2_with fail; refine (numbersL (More D (w.heap.size + 1)) num q k _ _ _ _ (.timed lo) (num_timed lo h0) hk hq _ (More.old hD.out (by omega) (by simp)) ?_ ?_).mono ?_
 · exact fn_time _ _ _
 · exact ⟨_, _, rfl, fun args w => by go_simp, fun w' hE hV s hs => by simpa [Form.readN] using timed2_calls _ lo s hs w' hV (hE.cell (by go_simp) (More.no hD.out (by omega) (by omega)))⟩
 rintro e w1 ⟨⟨v, rfl, hv⟩, hE⟩; obtain ⟨fa, ca, fb, cb, fc, cc, rfl⟩ := hv.open; have HV := Lib.hid hv; clear hv; have hblk := hE.heap (heap_alloc_new _ _)
 try simp only [World.size_alloc] at hblk
 have hBw : w.heap.size ≤ w.heap.size + 1 := by omega
 have hX0 : Ext w w1 := (((Ext.refl w).alloc _) |>.alloc _).trans hE; have hf := laid_heap (a := .int .i64 num) (b := .func (.func fa) #[] ca) (c := .func (.func fb) #[] cb) (d := .func (.func fc) #[] cc) hblk; have hlaid := HV.out.laid (a := .int .i64 num) (b := .func (.func fa) #[] ca) (c := .func (.func fb) #[] cb) (d := .func (.func fc) #[] cc); have hext := hX0.laid (a := .int .i64 num) (b := .func (.func fa) #[] ca) (c := .func (.func fb) #[] cb) (d := .func (.func fc) #[] cc) hBw; have HX := Lib.hid (And.intro hlaid hext); clear hlaid hext; generalize hBe : w.heap.size + 1 = B at hblk hf HX ⊢; have HBE := Lib.hid hBe; clear hBe hBw HV; obtain ⟨rq, _⟩ := blk_facts hf; have r0 := rq 0; have r1 := rq 1; have r2 := rq 2; have r3 := rq 3; obtain ⟨hq, hz⟩ := blk_facts hblk; have q0 := hq 0; have q1 := hq 1; have q2 := hq 2; have q3 := hq 3; have z0 := hz 0; have z1 := hz 1; have z2 := hz 2; have z3 := hz 3; simp at q0 q1 q2 q3 r0 r1 r2 r3; have HR := Lib.hid (And.intro r0 (And.intro r1 (And.intro r2 r3))); clear hq hz hblk hf rq r0 r1 r2 r3 hE hX0; go_wp2; obtain ⟨r0, r1, r2, r3⟩ := HR.out; have hlaid := HX.out; generalize (((w1.setCell ⟨B, 0, none⟩ (.int .i64 num)).setCell ⟨B, 1, none⟩ (.func (.func fa) #[] ca)).setCell ⟨B, 2, none⟩ (.func (.func fb) #[] cb)).setCell ⟨B, 3, none⟩ (.func (.func fc) #[] cc) = w2 at *
 refine bodyPost_ret (v := .agg #[.int .i64 num, .func (.func fa) #[] ca, .func (.func fb) #[] cb, .func (.func fc) #[] cc]) (by simp [results, Tryz.results182, go_sem, r0, r1, r2, r3]) rfl ⟨⟨_, rfl, hlaid.1⟩, hlaid.2⟩
theorem pricedForm (D : Nat → Prop) (num : Int) (q k : Nat) (hk : tys[k]? = some .I) (hq : PtrFn q k) (w : World) (hD : Old D w) :
 Calls Tryz.prog 272 #[.int .i64 num, .func (.func q) #[] #[]] w fun e w' => Returns e (fun v => IsForm D w' v num (.priced) k) ∧ Ext w w' := by
 have hD := Lib.hid hD; go_enter Tryz.func272, Tryz.ntmps272
 go_wp2_with fail; refine (numbersL (More D (w.heap.size)) num q k _ _ _ _ (.priced) num_priced hk hq _ (More.old hD.out (by omega) (by simp)) ?_ ?_).mono ?_
 · exact fn_price _ _
 · exact ⟨_, _, rfl, fun args w => by go_simp, fun w' hE hV s hs => by simpa [Form.readN] using priced1_calls s hs w' hV⟩
 rintro e w1 ⟨⟨v, rfl, hv⟩, hE⟩; obtain ⟨fa, ca, fb, cb, fc, cc, rfl⟩ := hv.open; have HV := Lib.hid hv; clear hv; have hblk := hE.heap (heap_alloc_new _ _)
 try simp only [World.size_alloc] at hblk
 have hBw : w.heap.size ≤ w.heap.size := by omega
 have hX0 : Ext w w1 := (((Ext.refl w).alloc _)).trans hE; have hf := laid_heap (a := .int .i64 num) (b := .func (.func fa) #[] ca) (c := .func (.func fb) #[] cb) (d := .func (.func fc) #[] cc) hblk; have hlaid := HV.out.laid (a := .int .i64 num) (b := .func (.func fa) #[] ca) (c := .func (.func fb) #[] cb) (d := .func (.func fc) #[] cc); have hext := hX0.laid (a := .int .i64 num) (b := .func (.func fa) #[] ca) (c := .func (.func fb) #[] cb) (d := .func (.func fc) #[] cc) hBw; have HX := Lib.hid (And.intro hlaid hext); clear hlaid hext; generalize hBe : w.heap.size = B at hblk hf HX ⊢; have HBE := Lib.hid hBe; clear hBe hBw HV; obtain ⟨rq, _⟩ := blk_facts hf; have r0 := rq 0; have r1 := rq 1; have r2 := rq 2; have r3 := rq 3; obtain ⟨hq, hz⟩ := blk_facts hblk; have q0 := hq 0; have q1 := hq 1; have q2 := hq 2; have q3 := hq 3; have z0 := hz 0; have z1 := hz 1; have z2 := hz 2; have z3 := hz 3; simp at q0 q1 q2 q3 r0 r1 r2 r3; have HR := Lib.hid (And.intro r0 (And.intro r1 (And.intro r2 r3))); clear hq hz hblk hf rq r0 r1 r2 r3 hE hX0; go_wp2; obtain ⟨r0, r1, r2, r3⟩ := HR.out; have hlaid := HX.out; generalize (((w1.setCell ⟨B, 0, none⟩ (.int .i64 num)).setCell ⟨B, 1, none⟩ (.func (.func fa) #[] ca)).setCell ⟨B, 2, none⟩ (.func (.func fb) #[] cb)).setCell ⟨B, 3, none⟩ (.func (.func fc) #[] cc) = w2 at *
 refine bodyPost_ret (v := .agg #[.int .i64 num, .func (.func fa) #[] ca, .func (.func fb) #[] cb, .func (.func fc) #[] cc]) (by simp [results, Tryz.results272, go_sem, r0, r1, r2, r3]) rfl ⟨⟨_, rfl, hlaid.1⟩, hlaid.2⟩
theorem codedForm (D : Nat → Prop) (num : Int) (q k : Nat) (first : Int) (ws : List (List UInt8)) (h0 : 0 ≤ first) (h1 : first ≤ 1) (hl : ws.length ≤ 100) (hk : tys[k]? = some .I) (hq : PtrFn q k) (b : Nat) (w : World) (hD : Old D w) (hbD : ¬ D b) (hb : b < w.heap.size) (hv : WordsAt w b ws) :
 Calls Tryz.prog 172 #[.int .i64 num, .func (.func q) #[] #[], .int .i64 first, (.slice (some ⟨b, 0, none⟩) ws.length ws.length)] w fun e w' => Returns e (fun v => IsForm D w' v num (.coded first ws) k) ∧ Ext w w' := by
 have HW := Lib.hid hv; have hD := Lib.hid hD; have hnb : ¬ More D (w.heap.size + 1 + 1) b := fun h2 => by
  rcases h2 with h2 | h2
  · exact hbD h2
  · omega
 clear hv; go_enter Tryz.func172, Tryz.ntmps172
 go_wp2_with fail; refine (numbers (More D (w.heap.size + 1 + 1)) num q k _ _ _ _ (.coded first ws) (num_coded first ws h0 h1 hl) hk hq _ (More.old hD.out (by omega) (by simp)) ?_ ?_).mono ?_
 · refine ⟨_, _, rfl, fun args w => by go_simp, fun w' hE hV x _ _ hp => ?_⟩; simpa using coded1_calls _ _ first ws h0 h1 hl x hp _ w' (hE.cell (by go_simp) (More.no hD.out (by omega) (by omega))) ⟨b, rfl, ((HW.out.ext ((((Ext.refl w).alloc _).alloc _).alloc _)).keep hE hnb)⟩ (hE.cell (by go_simp) (More.no hD.out (by omega) (by omega)))
 · refine ⟨_, _, rfl, fun args w => by go_simp, fun w' hE hV s hs => ?_⟩; simpa using coded2_calls _ _ first ws h0 h1 hl s _ w' (hE.cell (by go_simp) (More.no hD.out (by omega) (by omega))) ⟨b, rfl, ((HW.out.ext ((((Ext.refl w).alloc _).alloc _).alloc _)).keep hE hnb)⟩ (hE.cell (by go_simp) (More.no hD.out (by omega) (by omega)))
 rintro e w1 ⟨⟨v, rfl, hv⟩, hE⟩; obtain ⟨fa, ca, fb, cb, fc, cc, rfl⟩ := hv.open; have HV := Lib.hid hv; clear hv; have hblk := hE.heap (heap_alloc_new _ _)
 try simp only [World.size_alloc] at hblk
 have hBw : w.heap.size ≤ w.heap.size + 1 + 1 := by omega
 have hX0 : Ext w w1 := (((Ext.refl w).alloc _).alloc _ |>.alloc _).trans hE; have hf := laid_heap (a := .int .i64 num) (b := .func (.func fa) #[] ca) (c := .func (.func fb) #[] cb) (d := .func (.func fc) #[] cc) hblk; have hlaid := HV.out.laid (a := .int .i64 num) (b := .func (.func fa) #[] ca) (c := .func (.func fb) #[] cb) (d := .func (.func fc) #[] cc); have hext := hX0.laid (a := .int .i64 num) (b := .func (.func fa) #[] ca) (c := .func (.func fb) #[] cb) (d := .func (.func fc) #[] cc) hBw; have HX := Lib.hid (And.intro hlaid hext); clear hlaid hext; generalize hBe : w.heap.size + 1 + 1 = B at hblk hf HX ⊢; have HBE := Lib.hid hBe; clear hBe hBw HV; obtain ⟨rq, _⟩ := blk_facts hf; have r0 := rq 0; have r1 := rq 1; have r2 := rq 2; have r3 := rq 3; obtain ⟨hq, hz⟩ := blk_facts hblk; have q0 := hq 0; have q1 := hq 1; have q2 := hq 2; have q3 := hq 3; have z0 := hz 0; have z1 := hz 1; have z2 := hz 2; have z3 := hz 3; simp at q0 q1 q2 q3 r0 r1 r2 r3; have HR := Lib.hid (And.intro r0 (And.intro r1 (And.intro r2 r3))); clear hq hz hblk hf rq r0 r1 r2 r3 hE hX0; go_wp2; obtain ⟨r0, r1, r2, r3⟩ := HR.out; have hlaid := HX.out; generalize (((w1.setCell ⟨B, 0, none⟩ (.int .i64 num)).setCell ⟨B, 1, none⟩ (.func (.func fa) #[] ca)).setCell ⟨B, 2, none⟩ (.func (.func fb) #[] cb)).setCell ⟨B, 3, none⟩ (.func (.func fc) #[] cc) = w2 at *
 refine bodyPost_ret (v := .agg #[.int .i64 num, .func (.func fa) #[] ca, .func (.func fb) #[] cb, .func (.func fc) #[] cc]) (by simp [results, Tryz.results172, go_sem, r0, r1, r2, r3]) rfl ⟨⟨_, rfl, hlaid.1⟩, hlaid.2⟩
end
section
open Go Go.RowKit
set_option maxHeartbeats 1600000
attribute [local go_sem] ba_get
theorem cellAt_S {m : Msg} (h : WT m) {k : Nat} (hk : tys[k]? = some .S) : cellAt m k = .S (gs m k) := by simp [cellAt, h.str hk]
theorem cellAt_B {m : Msg} (h : WT m) {k : Nat} (hk : tys[k]? = some .B) : cellAt m k = .B (gb m k) := by simp [cellAt, h.bool hk]
theorem textForm (D : Nat → Prop) (num : Int) (q k fm : Nat) (p : What) (hk : tys[k]? = some .S) (hq : PtrFn q k) (hp : FnStr fm (mayText p)) (w : World) (hD : Old D w) :
 Calls Tryz.prog 175 #[.int .i64 num, .func (.func q) #[] #[], .func (.func fm) #[] #[]] w fun e w' => Returns e (fun v => IsForm D w' v num (.text p) k) ∧ Ext w w' := by
 have hD0 : ∀ j, ¬ D (w.heap.size + j) := fun j hj => by have := hD _ hj; omega
 have d0 := Lib.hid (hD0 0); have d1 := Lib.hid (hD0 1); clear hD hD0; go_enter Tryz.func175, Tryz.ntmps175
 go_wp2; refine bodyPost_ret (v := .agg #[.int .i64 num, _, _, _]) (by simp [results, Tryz.results175, go_sem]; exact ⟨rfl, rfl, rfl⟩) rfl ⟨⟨_, rfl, ⟨_, _, _, rfl, ?_, ?_, ?_⟩⟩, ?_⟩
 · refine ⟨_, _, rfl, fun args w => by go_simp, fun w' hE g m hM => ?_⟩; simpa using texts1 q k w.heap.size hk hq g m w' hM (hE.cell (by go_simp) d0.out)
 · refine ⟨_, _, rfl, fun args w => by go_simp, fun w' hE hV g m hM hp => ?_⟩; rw [cellAt_S hM.wt hk]; simpa [Form.print] using texts2 q k w.heap.size hk hq g m w' hM (hE.cell (by go_simp) d0.out)
 · refine ⟨_, _, rfl, fun args w => by go_simp, fun w' hE hV g m s hM hs => ?_⟩; simpa using texts3 q k w.heap.size (w.heap.size + 1) fm p hk hq hp g m s hs w' hM (hE.cell (by go_simp) d1.out) (hE.cell (by go_simp) d0.out)
 · exact (((Ext.refl _).alloc _).alloc _).alloc _
theorem flagForm (D : Nat → Prop) (num : Int) (q k : Nat) (hk : tys[k]? = some .B) (hq : PtrFn q k) (w : World) (hD : Old D w) :
 Calls Tryz.prog 180 #[.int .i64 num, .func (.func q) #[] #[]] w fun e w' => Returns e (fun v => IsForm D w' v num .flag k) ∧ Ext w w' := by
 have hD0 : ∀ j, ¬ D (w.heap.size + j) := fun j hj => by have := hD _ hj; omega
 have d0 := Lib.hid (hD0 0); clear hD hD0; go_enter Tryz.func180, Tryz.ntmps180
 go_wp2; refine bodyPost_ret (v := .agg #[.int .i64 num, _, _, _]) (by simp [results, Tryz.results180, go_sem]; exact ⟨rfl, rfl, rfl⟩) rfl ⟨⟨_, rfl, ⟨_, _, _, rfl, ?_, ?_, ?_⟩⟩, ?_⟩
 · refine ⟨_, _, rfl, fun args w => by go_simp, fun w' hE g m hM => ?_⟩; simpa using flags1 q k w.heap.size hk hq g m w' hM (hE.cell (by go_simp) d0.out)
 · refine ⟨_, _, rfl, fun args w => by go_simp, fun w' hE hV g m hM hp => ?_⟩; rw [cellAt_B hM.wt hk]; simpa [Form.print] using flags2 (.pointer (some ⟨g, 0, none⟩)) w'
 · refine ⟨_, _, rfl, fun args w => by go_simp, fun w' hE hV g m s hM hs => ?_⟩; simpa using flags3 q k w.heap.size hk hq g m s w' hM (hE.cell (by go_simp) d0.out)
 · exact ((Ext.refl _).alloc _).alloc _
theorem fn_short : FnStr 188 isTest := ⟨fun args w => by go_simp, fun s w hs => by
 by_cases h : s.length ≤ 20
 · have e : isTest s = isText s := by simp [isTest, h]
   have hi : (s.length : Int) ≤ 20 := by omega
   rw [e]; clear e h; go_enter Tryz.func188, Tryz.ntmps188
   go_wp2_with (first | (go_at_call 123; refine (isText_calls _ _ hs).mono ?_; rintro e w' ⟨rfl, rfl⟩)); go_ret; exact ⟨rfl, Ext.refl _⟩
 · have e : isTest s = false := by simp [isTest]; omega
   have hi : ¬ (s.length : Int) ≤ 20 := by omega
   rw [e]; clear e h; go_enter Tryz.func188, Tryz.ntmps188
   go_wp2_with (first | (go_at_call 123; refine (isText_calls _ _ hs).mono ?_; rintro e w' ⟨rfl, rfl⟩)); go_ret; exact ⟨rfl, Ext.refl _⟩⟩
def wordCells (ws : List (List UInt8)) : Array Value := (ws.map fun x => Value.string ⟨x.toArray⟩).toArray
theorem wordsAt_new (w : World) (ws : List (List UInt8)) (t : TypeId) : WordsAt (w.alloc (.cells (wordCells ws) t)) w.heap.size ws := fun j hj => by
 rw [cell_of_row _ _ _ _ t (0, 0) (heap_alloc_new w _)]; simp [wordCells, hj]
theorem types_calls (w : World) : Calls Tryz.prog 174 #[] w fun e w' => e = .returned (.slice (some ⟨w.heap.size, 0, none⟩) 17 17) ∧ WordsAt w' w.heap.size typesL ∧ Ext w w' ∧ w.heap.size < w'.heap.size := by
 have hW := Lib.hid (wordsAt_new w typesL 9); have hX := (Ext.refl w).alloc (.cells (wordCells typesL) 9); have hs : w.heap.size < (w.alloc (.cells (wordCells typesL) 9)).heap.size := by simp
 have HX := Lib.hid (And.intro hX hs); clear hX hs; go_enter Tryz.func174, Tryz.ntmps174
 go_wp2; go_ret; exact ⟨rfl, hW.out, HX.out.1, HX.out.2⟩
theorem ptr_formOf1 : PtrFn 173 0 := ⟨fun args w => by go_simp, fun b w => by
 go_enter Tryz.func173, Tryz.ntmps173
 go_wp2; go_ret; exact ⟨rfl, rfl⟩⟩
theorem ptr_formOf2 : PtrFn 176 1 := ⟨fun args w => by go_simp, fun b w => by
 go_enter Tryz.func176, Tryz.ntmps176
 go_wp2; go_ret; exact ⟨rfl, rfl⟩⟩
theorem ptr_formOf3 : PtrFn 177 2 := ⟨fun args w => by go_simp, fun b w => by
 go_enter Tryz.func177, Tryz.ntmps177
 go_wp2; go_ret; exact ⟨rfl, rfl⟩⟩
theorem ptr_formOf4 : PtrFn 179 3 := ⟨fun args w => by go_simp, fun b w => by
 go_enter Tryz.func179, Tryz.ntmps179
 go_wp2; go_ret; exact ⟨rfl, rfl⟩⟩
theorem ptr_formOf5 : PtrFn 181 4 := ⟨fun args w => by go_simp, fun b w => by
 go_enter Tryz.func181, Tryz.ntmps181
 go_wp2; go_ret; exact ⟨rfl, rfl⟩⟩
theorem ptr_formOf6 : PtrFn 183 5 := ⟨fun args w => by go_simp, fun b w => by
 go_enter Tryz.func183, Tryz.ntmps183
 go_wp2; go_ret; exact ⟨rfl, rfl⟩⟩
theorem ptr_formOf7 : PtrFn 184 6 := ⟨fun args w => by go_simp, fun b w => by
 go_enter Tryz.func184, Tryz.ntmps184
 go_wp2; go_ret; exact ⟨rfl, rfl⟩⟩
theorem ptr_formOf8 : PtrFn 185 7 := ⟨fun args w => by go_simp, fun b w => by
 go_enter Tryz.func185, Tryz.ntmps185
 go_wp2; go_ret; exact ⟨rfl, rfl⟩⟩
theorem ptr_formOf9 : PtrFn 186 8 := ⟨fun args w => by go_simp, fun b w => by
 go_enter Tryz.func186, Tryz.ntmps186
 go_wp2; go_ret; exact ⟨rfl, rfl⟩⟩
theorem ptr_formOf10 : PtrFn 187 9 := ⟨fun args w => by go_simp, fun b w => by
 go_enter Tryz.func187, Tryz.ntmps187
 go_wp2; go_ret; exact ⟨rfl, rfl⟩⟩
theorem ptr_formOf11 : PtrFn 189 10 := ⟨fun args w => by go_simp, fun b w => by
 go_enter Tryz.func189, Tryz.ntmps189
 go_wp2; go_ret; exact ⟨rfl, rfl⟩⟩
theorem ptr_formOf12 : PtrFn 190 11 := ⟨fun args w => by go_simp, fun b w => by
 go_enter Tryz.func190, Tryz.ntmps190
 go_wp2; go_ret; exact ⟨rfl, rfl⟩⟩
theorem ptr_formOf13 : PtrFn 191 12 := ⟨fun args w => by go_simp, fun b w => by
 go_enter Tryz.func191, Tryz.ntmps191
 go_wp2; go_ret; exact ⟨rfl, rfl⟩⟩
theorem ptr_formOf14 : PtrFn 192 13 := ⟨fun args w => by go_simp, fun b w => by
 go_enter Tryz.func192, Tryz.ntmps192
 go_wp2; go_ret; exact ⟨rfl, rfl⟩⟩
theorem ptr_formOf15 : PtrFn 193 14 := ⟨fun args w => by go_simp, fun b w => by
 go_enter Tryz.func193, Tryz.ntmps193
 go_wp2; go_ret; exact ⟨rfl, rfl⟩⟩
theorem ptr_formOf16 : PtrFn 194 15 := ⟨fun args w => by go_simp, fun b w => by
 go_enter Tryz.func194, Tryz.ntmps194
 go_wp2; go_ret; exact ⟨rfl, rfl⟩⟩
theorem ptr_formOf17 : PtrFn 195 16 := ⟨fun args w => by go_simp, fun b w => by
 go_enter Tryz.func195, Tryz.ntmps195
 go_wp2; go_ret; exact ⟨rfl, rfl⟩⟩
theorem ptr_formOf18 : PtrFn 196 17 := ⟨fun args w => by go_simp, fun b w => by
 go_enter Tryz.func196, Tryz.ntmps196
 go_wp2; go_ret; exact ⟨rfl, rfl⟩⟩
theorem ptr_formOf19 : PtrFn 197 18 := ⟨fun args w => by go_simp, fun b w => by
 go_enter Tryz.func197, Tryz.ntmps197
 go_wp2; go_ret; exact ⟨rfl, rfl⟩⟩
theorem ptr_formOfOrder1 : PtrFn 265 19 := ⟨fun args w => by go_simp, fun b w => by
 go_enter Tryz.func265, Tryz.ntmps265
 go_wp2; go_ret; exact ⟨rfl, rfl⟩⟩
theorem ptr_formOfOrder2 : PtrFn 266 20 := ⟨fun args w => by go_simp, fun b w => by
 go_enter Tryz.func266, Tryz.ntmps266
 go_wp2; go_ret; exact ⟨rfl, rfl⟩⟩
theorem ptr_formOfOrder3 : PtrFn 267 21 := ⟨fun args w => by go_simp, fun b w => by
 go_enter Tryz.func267, Tryz.ntmps267
 go_wp2; go_ret; exact ⟨rfl, rfl⟩⟩
theorem ptr_formOfOrder4 : PtrFn 268 22 := ⟨fun args w => by go_simp, fun b w => by
 go_enter Tryz.func268, Tryz.ntmps268
 go_wp2; go_ret; exact ⟨rfl, rfl⟩⟩
theorem ptr_formOfOrder5 : PtrFn 269 23 := ⟨fun args w => by go_simp, fun b w => by
 go_enter Tryz.func269, Tryz.ntmps269
 go_wp2; go_ret; exact ⟨rfl, rfl⟩⟩
theorem ptr_formOfOrder6 : PtrFn 270 24 := ⟨fun args w => by go_simp, fun b w => by
 go_enter Tryz.func270, Tryz.ntmps270
 go_wp2; go_ret; exact ⟨rfl, rfl⟩⟩
theorem ptr_formOfOrder7 : PtrFn 271 25 := ⟨fun args w => by go_simp, fun b w => by
 go_enter Tryz.func271, Tryz.ntmps271
 go_wp2; go_ret; exact ⟨rfl, rfl⟩⟩
theorem ptr_formOfOrder8 : PtrFn 273 26 := ⟨fun args w => by go_simp, fun b w => by
 go_enter Tryz.func273, Tryz.ntmps273
 go_wp2; go_ret; exact ⟨rfl, rfl⟩⟩
theorem ptr_formOfOrder9 : PtrFn 274 27 := ⟨fun args w => by go_simp, fun b w => by
 go_enter Tryz.func274, Tryz.ntmps274
 go_wp2; go_ret; exact ⟨rfl, rfl⟩⟩
theorem ptr_formOfOrder10 : PtrFn 276 28 := ⟨fun args w => by go_simp, fun b w => by
 go_enter Tryz.func276, Tryz.ntmps276
 go_wp2; go_ret; exact ⟨rfl, rfl⟩⟩
theorem ptr_formOfOrder11 : PtrFn 277 29 := ⟨fun args w => by go_simp, fun b w => by
 go_enter Tryz.func277, Tryz.ntmps277
 go_wp2; go_ret; exact ⟨rfl, rfl⟩⟩
theorem ptr_formOfOrder12 : PtrFn 278 30 := ⟨fun args w => by go_simp, fun b w => by
 go_enter Tryz.func278, Tryz.ntmps278
 go_wp2; go_ret; exact ⟨rfl, rfl⟩⟩
theorem ptr_formOfOrder13 : PtrFn 279 31 := ⟨fun args w => by go_simp, fun b w => by
 go_enter Tryz.func279, Tryz.ntmps279
 go_wp2; go_ret; exact ⟨rfl, rfl⟩⟩
theorem ptr_formOfOrder14 : PtrFn 281 32 := ⟨fun args w => by go_simp, fun b w => by
 go_enter Tryz.func281, Tryz.ntmps281
 go_wp2; go_ret; exact ⟨rfl, rfl⟩⟩
theorem ptr_formOfReport1 : PtrFn 364 33 := ⟨fun args w => by go_simp, fun b w => by
 go_enter Tryz.func364, Tryz.ntmps364
 go_wp2; go_ret; exact ⟨rfl, rfl⟩⟩
theorem ptr_formOfReport2 : PtrFn 365 34 := ⟨fun args w => by go_simp, fun b w => by
 go_enter Tryz.func365, Tryz.ntmps365
 go_wp2; go_ret; exact ⟨rfl, rfl⟩⟩
theorem ptr_formOfReport3 : PtrFn 366 35 := ⟨fun args w => by go_simp, fun b w => by
 go_enter Tryz.func366, Tryz.ntmps366
 go_wp2; go_ret; exact ⟨rfl, rfl⟩⟩
theorem ptr_formOfReport4 : PtrFn 367 36 := ⟨fun args w => by go_simp, fun b w => by
 go_enter Tryz.func367, Tryz.ntmps367
 go_wp2; go_ret; exact ⟨rfl, rfl⟩⟩
theorem ptr_formOfReport5 : PtrFn 368 37 := ⟨fun args w => by go_simp, fun b w => by
 go_enter Tryz.func368, Tryz.ntmps368
 go_wp2; go_ret; exact ⟨rfl, rfl⟩⟩
theorem ptr_formOfReport6 : PtrFn 369 38 := ⟨fun args w => by go_simp, fun b w => by
 go_enter Tryz.func369, Tryz.ntmps369
 go_wp2; go_ret; exact ⟨rfl, rfl⟩⟩
theorem ptr_formOfReport7 : PtrFn 370 39 := ⟨fun args w => by go_simp, fun b w => by
 go_enter Tryz.func370, Tryz.ntmps370
 go_wp2; go_ret; exact ⟨rfl, rfl⟩⟩
theorem ptr_formOfReport8 : PtrFn 371 40 := ⟨fun args w => by go_simp, fun b w => by
 go_enter Tryz.func371, Tryz.ntmps371
 go_wp2; go_ret; exact ⟨rfl, rfl⟩⟩
theorem ptr_formOfReport9 : PtrFn 372 41 := ⟨fun args w => by go_simp, fun b w => by
 go_enter Tryz.func372, Tryz.ntmps372
 go_wp2; go_ret; exact ⟨rfl, rfl⟩⟩
end
end Go.Proofs.YtdmjinlgdkgoiaaGreatDoor
