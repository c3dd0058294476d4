/- Of the layer fix: Read2, Decode. -/
import Derived.Test.YtdmjinlgdkgoiaaGreatDoorFeAt
set_option linter.unusedVariables false
set_option linter.unusedSimpArgs false
set_option maxRecDepth 100000
namespace Go.Proofs.YtdmjinlgdkgoiaaGreatDoor
section
open Go Go.RowKit
set_option maxHeartbeats 6400000
attribute [local go_sem ↓] loadVarMsg
attribute [local go_sem] ba_get loadRowMsg rowOf_new rowOf_old rowOf_drew form_reader
structure RdS (w wk : World) (m : Msg) : Prop where
 ext : Ext w wk
 msg : MsgAt wk (w.heap.size + 1 + 1) m
 r2 : wk.heap[w.heap.size]? = some (.cells (msgV noMsg) 23)
 r3 : wk.heap[w.heap.size + 1]? = some (.cells zeroFlaw 81)
theorem RdS.more {w wk w' : World} {m : Msg} (h : RdS w wk m) (hE : Ext wk w') : RdS w w' m := ⟨h.ext.trans hE, h.msg.ext hE, hE.heap h.r2, hE.heap h.r3⟩
theorem RdS.turned {w wk w' : World} {m m' : Msg} (h : RdS w wk m) {c : Obj} (hT : TurnR (w.heap.size + 1 + 1) c wk w') (hm : MsgAt w' (w.heap.size + 1 + 1) m') : RdS w w' m' := by
 have h2 := (Array.getElem?_eq_some_iff.1 h.r2).1; have h3 := (Array.getElem?_eq_some_iff.1 h.r3).1; exact ⟨hT.ext h.ext (by omega), hm, (hT.block _ h2 (by omega)).trans h.r2, (hT.block _ h3 (by omega)).trans h.r3⟩
theorem RdS.laid {w wk w' : World} {m : Msg} (h : RdS w wk m) {c d : Obj} (hr : RetsR w.heap.size (w.heap.size + 1) c d wk w') : Ext w w' := hr.ext h.ext (Nat.le_refl _) (by omega)
theorem RdS.start (w : World) : RdS w (((w.alloc (.cells (msgV noMsg) 23)).alloc (.cells zeroFlaw 81)).alloc (.cells (msgV noMsg) 23)) noMsg := by
 refine ⟨(((Ext.refl w).alloc _).alloc _).alloc _, ⟨by decide, ?_⟩, ?_, ?_⟩
 · have := heap_alloc_new ((w.alloc (.cells (msgV noMsg) 23)).alloc (.cells zeroFlaw 81)) (.cells (msgV noMsg) 23); simpa using this
 · exact (((Ext.refl _).alloc _).alloc _).heap (heap_alloc_new w (.cells (msgV noMsg) 23))
 · have := ((Ext.refl _).alloc (.cells (msgV noMsg) 23)).heap (heap_alloc_new (w.alloc (.cells (msgV noMsg) 23)) (.cells zeroFlaw 81)); simpa using this
theorem RetsR.msgRow {g h : Nat} {c d : Obj} {w w' : World} {b : Nat} {m : Msg} (hr : RetsR g h c d w w') (hm : MsgAt w b m) (h1 : b ≠ g) (h2 : b ≠ h) : rowOf w' b = msgV m := (hr.row h1 h2).trans hm.row.1
theorem run_storeMsg {w wk : World} {m : Msg} (h : RdS w wk m) : (storeCells ⟨w.heap.size, 0, none⟩ (msgV m).toList).run Tryz.prog wk = .ok () (wk.setRow w.heap.size (msgV m)) := by
 have hs := msgV_size h.msg.wt; have h0 : (msgV noMsg).size = 42 := by decide
 have h1 : (msgV m).all (·.oneCell') = true := by
  unfold msgV; rw [List.all_toArray, List.all_map, List.all_eq_true]; intro c hc; cases c <;> rfl
 have := run_storeCells_at Tryz.prog w.heap.size 0 23 (msgV m).toList 0 (msgV noMsg) wk h.r2 (by simp only [Array.length_toList]; omega) (fun v hv => (Array.all_eq_true_iff_forall_mem.1 h1) v (by simpa using hv)); rw [this]; congr 2
 have h2 : (msgV noMsg).toList.drop (0 + 0 + (msgV m).toList.length) = [] := List.drop_eq_nil_of_le (by simp only [Array.length_toList]; omega); rw [h2]; simp
def laidBoth (w wk : World) (m : Msg) (f : Flaw) : World := (((wk.setRow w.heap.size (msgV m)).setCell ⟨w.heap.size + 1, 0, none⟩ (.int .i64 f.1)).setCell ⟨w.heap.size + 1, 1, none⟩ (.int .i64 f.2.1)).setCell ⟨w.heap.size + 1, 2, none⟩ (.int .i64 f.2.2)
theorem RdS.both {w wk : World} {m : Msg} {f : Flaw} (h : RdS w wk m) : RetsR w.heap.size (w.heap.size + 1) (.cells (msgV m) 23) (.cells (flawV f) 81) wk (laidBoth w wk m f) ∧
 (laidBoth w wk m f).heap[w.heap.size]? = some (.cells (msgV m) 23) ∧ (laidBoth w wk m f).heap[w.heap.size + 1]? = some (.cells (flawV f) 81) := by
 have h3 : (wk.setRow w.heap.size (msgV m)).heap[w.heap.size + 1]? = some (.cells zeroFlaw 81) := by rw [heap_setRow_ne (by omega)]; exact h.r3
 have hne : ∀ k, k ≠ w.heap.size + 1 → (laidBoth w wk m f).heap[k]? = (wk.setRow w.heap.size (msgV m)).heap[k]? := fun k hk => by
  unfold laidBoth; rw [Below.heap_setCell _ _ _ _ hk, Below.heap_setCell _ _ _ _ hk, Below.heap_setCell _ _ _ _ hk]
 have h1 : (laidBoth w wk m f).heap[w.heap.size]? = some (.cells (msgV m) 23) := by rw [hne _ (by omega)]; exact heap_setRow h.r2
 have h2 : (laidBoth w wk m f).heap[w.heap.size + 1]? = some (.cells (flawV f) 81) := set_blk (o := 2) (u := .int .i64 f.2.2) (set_blk (o := 1) (u := .int .i64 f.2.1) (set_blk (o := 0) (u := .int .i64 f.1) h3)); exact ⟨⟨rfl, rfl, rfl, by unfold laidBoth; rw [World.size_setCell, World.size_setCell, World.size_setCell, setRow_size], fun k h5 h4 => by rw [hne k h4, heap_setRow_ne h5], Or.inr h1, Or.inr h2⟩, h1, h2⟩
theorem RdS.flawFacts {w wk : World} {m : Msg} (h : RdS w wk m) : ((wk.setRow w.heap.size (msgV m)).cell? ⟨w.heap.size + 1, 0, none⟩ = some (.int .i64 0) ∧ (wk.setRow w.heap.size (msgV m)).cell? ⟨w.heap.size + 1, 1, none⟩ = some (.int .i64 0) ∧ (wk.setRow w.heap.size (msgV m)).cell? ⟨w.heap.size + 1, 2, none⟩ = some (.int .i64 0)) ∧ ∀ j, (wk.setRow w.heap.size (msgV m)).frozen? ⟨w.heap.size + 1, j, none⟩ = false := by
 have h3 : (wk.setRow w.heap.size (msgV m)).heap[w.heap.size + 1]? = some (.cells zeroFlaw 81) := by rw [heap_setRow_ne (by omega)]; exact h.r3
 obtain ⟨hq, hz⟩ := blk_facts h3; exact ⟨⟨hq 0, hq 1, hq 2⟩, hz⟩
structure ReadSay (w w' : World) (e : Ending) (x : Msg × Flaw) : Prop where
 is : e = .returned (.tuple #[.agg (msgV x.1), .agg (flawV x.2)])
 ext : Ext w w'
 wt : WT x.1
def isRows (d : TypeDesc) : Bool := match d with | .struct _ | .array _ _ => true | _ => false
theorem isStruct23 : ∃ d, Tryz.prog.underlying 23 = some d ∧ isRows d = true := ⟨_, rfl, rfl⟩
theorem isStruct81 : ∃ d, Tryz.prog.underlying 81 = some d ∧ isRows d = true := ⟨_, rfl, rfl⟩
theorem results_rows2 {P : Program} {fn : Func} {p q : Tmp} {ty tz : TypeId} (h : fn.results = #[.cell p ty, .cell q tz]) (tmps : Array Value) (w : World) {g k : Nat} {t u : TypeId} {cs ds : Array Value} {fr fs : Nat × Nat} {d d' : TypeDesc}
 (hg : w.heap[g]? = some (.cells cs t fr)) (hu : P.underlying ty = some d) (hd : isRows d = true) (hi : (P.info? ty).map (·.size) = some cs.size)
 (hk : w.heap[k]? = some (.cells ds u fs)) (hu' : P.underlying tz = some d') (hd' : isRows d' = true) (hi' : (P.info? tz).map (·.size) = some ds.size)
 (hp : tmps[p]?.getD undef = .pointer (some ⟨g, 0, none⟩)) (hq : tmps[q]?.getD undef = .pointer (some ⟨k, 0, none⟩)) : (results fn tmps).run P w = .ok (.tuple #[.agg cs, .agg ds]) w := by
 have k1 := run_loadVar_row w g t ty cs fr d hg hu (by cases d <;> first | rfl | (exact absurd hd (by simp [isRows]))) hi; have k2 := run_loadVar_row w k u tz ds fs d' hk hu' (by cases d' <;> first | rfl | (exact absurd hd' (by simp [isRows]))) hi'; simp [results, h, hp, hq, asAddr, k1, k2]
theorem oneCells {m : Msg} (h : WT m) : (msgV m).all (·.oneCell') = true := by
 unfold msgV; rw [List.all_toArray, List.all_map, List.all_eq_true]; intro c hc; cases c <;> rfl
theorem putRead_same {m : Msg} {k : Nat} {c : Cell} : putRead (m.set k c) k (some c) = m.set k c := set_set
theorem read_ret {w wk w1 : World} {a' : Act} {m : Msg} {f : Flaw} (h : RdS w wk m) (hr : RetsR w.heap.size (w.heap.size + 1) (.cells (msgV m) 23) (.cells (flawV f) 81) wk w1) (h2 : w1.heap[w.heap.size]? = some (.cells (msgV m) 23)) (h3 : w1.heap[w.heap.size + 1]? = some (.cells (flawV f) 81))
 (e2 : a'.eval (.tmp 2) = .pointer (some ⟨w.heap.size, 0, none⟩)) (e3 : a'.eval (.tmp 3) = .pointer (some ⟨w.heap.size + 1, 0, none⟩)) (hd : a'.defers = []) : bodyPost Tryz.prog Tryz.f42 (fun e w' => ReadSay w w' e (m, f)) .ret a' w1 := by
 obtain ⟨d, hd1, hd2⟩ := isStruct23; obtain ⟨d', hd1', hd2'⟩ := isStruct81; have hs := msgV_size h.msg.wt; exact bodyPost_ret (results_rows2 rfl a'.tmps w1 h2 hd1 hd2 (by rw [hs]; kernel_rfl) h3 hd1' hd2' (by kernel_rfl) (by simpa [Act.eval] using e2) (by simpa [Act.eval] using e3)) hd ⟨rfl, h.laid hr, h.msg.wt⟩
theorem WT.fits1 {s : Slot} {m : Msg} {v : List UInt8} (hm : WT m) (hv : v.length ≤ 140737488355328) : WT ((fitsIn s m v).getD m) := by
 cases h : fitsIn s m v with
 | none => exact hm
 | some m' => exact WT.fits hm hv h
theorem slot_num {kind : Int} {s : Slot} (h : s ∈ slotsOf kind) : s.tag ≠ 98 → s.tag ≠ 18 → s.tag ≠ 530 → s.num ∈ numbered := by
 intro h1 h2 h3; unfold slotsOf at h; rw [List.mem_append, List.mem_flatMap] at h; rcases h with ⟨n, hn, h⟩ | h
 · unfold slotsAt at h; rw [List.mem_append, List.mem_append] at h; rcases h with (h | h) | h
   · split at h
     · simp at h; subst h; exact absurd rfl h1
     · simp at h
   · split at h
     · simp at h; subst h; exact hn
     · simp at h
   · split at h
     · simp at h; subst h; exact absurd rfl h2
     · simp at h
 · split at h
   · simp at h; subst h; exact absurd rfl h3
   · simp at h
theorem OwnSl.grown {w w' : World} {base : Nat} {v : Value} {l : List Slot} {row : Option Nat} (h : OwnSl w base v l) (hg : w.grownBy w' row) (hr : ∀ k, row = some k → k < base) : OwnSl w' base v l :=
 World.ownsRow.kept h hg (by
  cases hb : v.ownBlock with
  | none => exact Or.inl rfl
  | some k =>
   right
   intro e; have h1 := h.block hb; have h2 := hr k (by rw [← e]); omega)
theorem OwnSl.turned {w w' : World} {base g : Nat} {c : Obj} {v : Value} {l : List Slot} (h : OwnSl w base v l) (hT : TurnR g c w w') (hg : g < base) : OwnSl w' base v l :=
 h.grown (row := some g) ⟨hT.os, hT.tape, hT.output, hT.size, fun k hk hn => hT.block k hk (fun e => hn (by rw [e]))⟩ (fun k hk => by cases hk; exact hg)
theorem SlotsIn.at {w : World} {A : Option Addr} {n cap : Nat} {l : List Slot} (h : SlotsIn w (.slice A n cap) l) : l ≠ [] → ∃ b, A = some ⟨b, 0, none⟩ ∧ SlotsAt w b l := by
 obtain ⟨A', cap', e, hA⟩ := h.is; cases e
 exact hA
theorem fixRead_calls (v : Value) (l : List Fld) (w : World) (hE : Env w) (hF : FldsIn w v l) (hl : l.length ≤ 1000000) (hv : ∀ f ∈ l, f.2.length ≤ 1000000) :
 Calls Tryz.prog 42 #[v] w fun e w' => ReadSay w w' e (readAll l) := by
 obtain ⟨R, hR⟩ : ∃ R, readAll l = R := ⟨_, rfl⟩
 rw [hR]; have HR := Lib.hid hR; have hst := RdS.start w; have hzero : msgV noMsg = #[.int .i64 0, .string ⟨#[]⟩, .string ⟨#[]⟩, .int .i64 0, .bool false, .int .i64 0, .int .i64 0, .int .i64 0, .bool false, .string ⟨#[]⟩, .int .i64 0, .int .i64 0, .int .i64 0, .bool false, .int .i64 0, .int .i64 0, .int .i64 0, .int .i64 0, .string ⟨#[]⟩, .string ⟨#[]⟩, .string ⟨#[]⟩, .string ⟨#[]⟩, .string ⟨#[]⟩, .int .i64 0, .int .i64 0, .int .i64 0, .int .i64 0, .int .i64 0, .int .i64 0, .int .i64 0, .int .i64 0, .int .i64 0, .int .i64 0, .int .i64 0, .int .i64 0, .int .i64 0, .int .i64 0, .int .i64 0, .int .i64 0, .int .i64 0, .int .i64 0, .int .i64 0] := rfl; rw [hzero] at hst; have hzf : zeroFlaw = #[.int .i64 0, .int .i64 0, .int .i64 0] := rfl; rw [hzf] at hst; have HS0 := Lib.hid hst; have HF := Lib.hid hF; have HE := Lib.hid hE; obtain ⟨A, cap, rfl, hA⟩ := hF.is; have HA := Lib.hid hA; have HV := Lib.hid hv; clear hR hF hE hv hst hzero hzf hA; cases l with
 | nil =>
  obtain rfl : R = (noMsg, (50, 0, 35)) := HR.out.symm; have hrow := HS0.out.msg.row.1; have hs := msgV_size HS0.out.msg.wt; have HX := Lib.hid (HS0.out.both (f := (50, 0, 35))); have hst := run_storeMsg HS0.out; obtain ⟨⟨f0, f1, f2⟩, hz⟩ := HS0.out.flawFacts; have z0 := hz 0; have z1 := hz 1; have z2 := hz 2; clear hz; go_enter Tryz.func42, Tryz.ntmps42
  go_wp2; exact read_ret HS0.out HX.out.1 HX.out.2.1 HX.out.2.2 (by rfl) (by rfl) (by rfl)
 | cons f r =>
  obtain ⟨t0, s0⟩ := f; obtain ⟨b, rfl, hat⟩ := HA.out (by simp); obtain ⟨q0, q1⟩ := hat 0 (by simp); simp only [Nat.zero_mul, Nat.zero_add, List.getElem_cons_zero] at q0 q1; have hb := lt_of_cell q0; have HTB := Lib.hid hb; have hs0 := HV.out (t0, s0) (by simp); have HAT := Lib.hid hat; have HL := Lib.hid hl; have HQ := Lib.hid q1; have HS0L := Lib.hid hs0; have c0 := HS0.out.ext.cell q0; obtain ⟨l, hll⟩ : ∃ l, (t0, s0) :: r = l := ⟨_, rfl⟩
  obtain ⟨L, hL⟩ : ∃ n, l.length = n := ⟨_, rfl⟩
  have hl1 : 1 ≤ L := by rw [← hL, ← hll]; simp
  have HLL := Lib.hid hll; have HLEN := Lib.hid hL; have HDROP : RowKit.Hid (l.drop 1 = r) := Lib.hid (by rw [← hll]; rfl); rw [hll] at HF HV HAT HL HR hl ⊢; rw [hL] at HF HL hl ⊢; have hl0 : ((L : Int) == 0) = false := by simp; omega
  have hl2 : (0 : Int) < (L : Int) := by omega
  have HL0 : RowKit.Hid (0 < L) := Lib.hid (by omega); clear hat hs0 q0 q1 HA; by_cases h35 : t0 = 35
  · subst h35; go_enter Tryz.func42, Tryz.ntmps42
    go_wp2_with fail; clear c0; generalize hWW : (((w.alloc (.cells #[.int .i64 0, .string ⟨#[]⟩, .string ⟨#[]⟩, .int .i64 0, .bool false, .int .i64 0, .int .i64 0, .int .i64 0, .bool false, .string ⟨#[]⟩, .int .i64 0, .int .i64 0, .int .i64 0, .bool false, .int .i64 0, .int .i64 0, .int .i64 0, .int .i64 0, .string ⟨#[]⟩, .string ⟨#[]⟩, .string ⟨#[]⟩, .string ⟨#[]⟩, .string ⟨#[]⟩, .int .i64 0, .int .i64 0, .int .i64 0, .int .i64 0, .int .i64 0, .int .i64 0, .int .i64 0, .int .i64 0, .int .i64 0, .int .i64 0, .int .i64 0, .int .i64 0, .int .i64 0, .int .i64 0, .int .i64 0, .int .i64 0, .int .i64 0, .int .i64 0, .int .i64 0] 23)).alloc (.cells #[.int .i64 0, .int .i64 0, .int .i64 0] 81)).alloc (.cells #[.int .i64 0, .string ⟨#[]⟩, .string ⟨#[]⟩, .int .i64 0, .bool false, .int .i64 0, .int .i64 0, .int .i64 0, .bool false, .string ⟨#[]⟩, .int .i64 0, .int .i64 0, .int .i64 0, .bool false, .int .i64 0, .int .i64 0, .int .i64 0, .int .i64 0, .string ⟨#[]⟩, .string ⟨#[]⟩, .string ⟨#[]⟩, .string ⟨#[]⟩, .string ⟨#[]⟩, .int .i64 0, .int .i64 0, .int .i64 0, .int .i64 0, .int .i64 0, .int .i64 0, .int .i64 0, .int .i64 0, .int .i64 0, .int .i64 0, .int .i64 0, .int .i64 0, .int .i64 0, .int .i64 0, .int .i64 0, .int .i64 0, .int .i64 0, .int .i64 0, .int .i64 0] 23)) = W at HS0 ⊢; clear hWW; have HQ1 := Lib.hid (HS0.out.ext.cell HQ.out); cases hrd : (formAt 35).read s0 with
    | none =>
     obtain rfl : R = (noMsg, (30, 0, 35)) := by rw [← HR.out, ← HLL.out]; exact readAll_kind hrd
     have HRD := Lib.hid hrd; clear hrd hl hl0 hl1 hl2 hL hll; have HWT : RowKit.Hid (WT noMsg) := Lib.hid (by decide); refine wp_region_rsteps (Turn (w.heap.size + 1 + 1) (.cells (msgV (noMsg)) 23)) (fun _ => by kernel_rfl) [.form 35 (formAt 35) (cellOf 35), .take (formAt 35) (cellOf 35), .is (.slice (some ⟨b, 0, none⟩) L cap), .is (.pointer (some ⟨b, 0, none⟩)), .is (.pointer (some ⟨b, 1, none⟩)), .is (.string ⟨s0.toArray⟩), .msg (.bool false), .is (.bool true)] (by kernel_rfl) ?_ ?_
     · refine And.intro ?_ (And.intro ?_ (And.intro ?_ (And.intro ?_ (And.intro ?_ (And.intro ?_ (And.intro ?_ (And.intro ?_ (True.intro))))))))
       · intro ρ w' hE hB hD; have ec := ctK hB
         have hB0 := fun f => hB (.func f) rfl
         clear hB hD; refine .inl ⟨rfl, ?_⟩; refine gives_call ent_fix_formOf (hB0 _) ?_; simp only [List.map_cons, List.map_nil, ec]; refine (form35_calls (w.heap.size + 1 + 1) w' (by have := HS0.out.msg.lt; have := hE.size; omega)).mono ?_; rintro e w'' ⟨⟨v, rfl, hv⟩, hE2⟩; exact ⟨v, rfl, TurnR.ofExt hE2, hv⟩
       · intro ρ w' hE hB hD; have r28 := hD 0 28 rfl rfl; change Rl.Post.p (.form 35 (formAt 35) (cellOf 35)) _ _ at r28; clear hB hD; refine .inl ⟨rfl, ?_⟩; unfold Gives; obtain ⟨fa, fb, fc, e28, h1, h2, h3⟩ := r28.is; go_simp; exact ⟨Rl.refl _ _, h3⟩
       · intro ρ w' hE hB hD; have e0 : ρ (.tmp 0) = _ := hB (.tmp 0) rfl; clear hB hD; refine .inl ⟨rfl, ?_⟩; unfold Gives; go_simp; first | done | exact yr1 | exact yr0 | exact yr2
       · intro ρ w' hE hB hD; have ec := ctK hB
         have h0 : 0 < L := HL0.out; have e30 : ρ (.tmp 30) = .slice (some ⟨b, 0, none⟩) L cap := hD 2 30 rfl rfl; clear hB hD; refine .inl ⟨rfl, ?_⟩; unfold Gives; go_simp; first | done | exact yr1 | exact yr0 | exact yr2
       · intro ρ w' hE hB hD; have e31 : ρ (.tmp 31) = .pointer (some ⟨b, 0, none⟩) := hD 3 31 rfl rfl; clear hB hD; refine .inl ⟨rfl, ?_⟩; unfold Gives; go_simp; first | done | exact yr1 | exact yr0 | exact yr2
       · intro ρ w' hE hB hD; have q1 := hE.cell HQ1.out (by have := HTB.out; omega); have e32 : ρ (.tmp 32) = .pointer (some ⟨b, 1, none⟩) := hD 4 32 rfl rfl; clear hB hD; refine .inl ⟨rfl, ?_⟩; unfold Gives; go_simp; first | done | exact yr1 | exact yr0 | exact yr2
       · intro ρ w' hE hB hD; have e4 : ρ (.tmp 4) = _ := hB (.tmp 4) rfl; have r29 := hD 1 29 rfl rfl; change Rl.Post.p (.take (formAt 35) (cellOf 35)) _ _ at r29; have e33 : ρ (.tmp 33) = .string ⟨s0.toArray⟩ := hD 5 33 rfl rfl; clear hB hD; refine .inl ⟨rfl, ?_⟩; obtain ⟨fid, caps, ef, h1, h2⟩ := r29; refine gives_callT h1 ef ?_; simp only [List.map_cons, List.map_nil, e4, e33]; have hext := hE.ext HS0.out.ext (by omega); have hold : MsgAt w' (w.heap.size + 1 + 1) noMsg ∨ MsgAt w' (w.heap.size + 1 + 1) (noMsg) := (hE.one HS0.out.msg.lt).imp (fun h => ⟨HS0.out.msg.wt, h.trans HS0.out.msg.blk⟩) (fun h => ⟨HWT.out, h⟩); rcases hold with hm | hm
         · refine (h2 w' ⟨rfl, rfl, rfl, Nat.le_refl _, fun _ _ _ => rfl⟩ (HE.out.ext hext) _ _ s0 hm HS0L.out).mono ?_; rw [HRD.out]; rintro e w'' ⟨rfl, hm2, hg⟩
           (try rw [HPUT.out] at hm2)
           exact ⟨_, rfl, TurnR.ofGrown hg hm2.blk, rfl, hm2⟩
         · refine (h2 w' ⟨rfl, rfl, rfl, Nat.le_refl _, fun _ _ _ => rfl⟩ (HE.out.ext hext) _ _ s0 hm HS0L.out).mono ?_; rw [HRD.out]; rintro e w'' ⟨rfl, hm2, hg⟩; have hm3 : MsgAt w'' (w.heap.size + 1 + 1) (noMsg) := hm2; exact ⟨_, rfl, TurnR.ofGrown hg hm3.blk, rfl, hm3⟩
       · intro ρ w' hE hB hD; have r34 := hD 6 34 rfl rfl; change Rl.Post.p (.msg (.bool false)) _ _ at r34; clear hB hD; refine .inl ⟨rfl, ?_⟩; unfold Gives; obtain ⟨e34, _⟩ := r34; go_simp; exact ⟨Rl.refl _ _, rfl⟩
     · intro a' w4 hE4 hd' hs' hB' hP' hN'; obtain ⟨x28, hx28⟩ : ∃ x, a'.eval (.tmp 28) = x := ⟨_, rfl⟩
       have r28 := hP' 0 28 rfl; change Rl.Post.p (.form 35 (formAt 35) (cellOf 35)) _ _ at r28; rw [hx28] at r28; obtain ⟨x29, hx29⟩ : ∃ x, a'.eval (.tmp 29) = x := ⟨_, rfl⟩
       have r29 := hP' 1 29 rfl; change Rl.Post.p (.take (formAt 35) (cellOf 35)) _ _ at r29; rw [hx29] at r29; obtain ⟨x34, hx34⟩ : ∃ x, a'.eval (.tmp 34) = x := ⟨_, rfl⟩
       have r34 := hP' 6 34 rfl; change Rl.Post.p (.msg (.bool false)) _ _ at r34; rw [hx34] at r34; have ha' := act_of_posts [(28, x28), (29, x29), (30, .slice (some ⟨b, 0, none⟩) L cap), (31, .pointer (some ⟨b, 0, none⟩)), (32, .pointer (some ⟨b, 1, none⟩)), (33, .string ⟨s0.toArray⟩), (34, x34), (35, .bool true)] hd' hs' hB' (by simp) (by kernel_rfl) (by
        intro p hp; simp only [List.mem_cons, List.mem_nil_iff, or_false] at hp
        rcases hp with rfl | rfl | rfl | rfl | rfl | rfl | rfl | rfl
        · exact hx28
        · exact hx29
        · exact hP' 2 30 rfl
        · exact hP' 3 31 rfl
        · exact hP' 4 32 rfl
        · exact hP' 5 33 rfl
        · exact hx34
        · exact hP' 7 35 rfl)
       clear hB' hP' hs' hd'; simp only [List.foldl_cons, List.foldl_nil, List.setIfInBounds_toArray, List.set_cons_succ, List.set_cons_zero] at ha'; subst ha'; clear hx28 hx29 hx34; have HS4 := Lib.hid (HS0.out.turned hE4 r34.2); obtain ⟨rfl, _⟩ := r34; clear hE4 r28 r29; clear HS0; have hrow := HS4.out.msg.row.1; have hs := msgV_size HS4.out.msg.wt; have HX := Lib.hid (HS4.out.both (f := (30, 0, 35))); have hst := run_storeMsg HS4.out; obtain ⟨⟨f0, f1, f2⟩, hz⟩ := HS4.out.flawFacts; have z0 := hz 0; have z1 := hz 1; have z2 := hz 2; clear hz; go_wp2; exact read_ret HS4.out HX.out.1 HX.out.2.1 HX.out.2.2 (by rfl) (by rfl) (by rfl)
    | some c =>
     obtain ⟨M0, hM0⟩ : ∃ M, noMsg.set 0 c = M := ⟨_, rfl⟩
     obtain ⟨all, hall⟩ : ∃ a, slotsOf (gi M0 0) = a := ⟨_, rfl⟩
     obtain ⟨X, hX⟩ : ∃ X, readFrom all l 1 M0 r = X := ⟨_, rfl⟩
     have HRO : RowKit.Hid (R = readOn all l X) := Lib.hid (by
      rw [← HR.out, ← hX, ← hall, ← hM0, ← HLL.out]; exact readAll_go hrd)
     have HRX : RowKit.Hid (X.2.1 ≠ 0 → R = X) := Lib.hid (fun h => by rw [HRO.out]; unfold readOn; rw [if_pos (by simpa using h)]); have HXX := Lib.hid hX; have HALL := Lib.hid hall; have HRD : RowKit.Hid ((formAt 35).read s0 = some c) := Lib.hid hrd; have HSET : RowKit.Hid (putRead M0 (cellOf 35) (some c) = M0) := Lib.hid (by
      have h0 : cellOf 35 = 0 := by decide
      rw [h0, ← hM0]; exact putRead_same)
     have HPUT : RowKit.Hid (putRead noMsg (cellOf 35) (some c) = M0) := Lib.hid (by
      have h0 : cellOf 35 = 0 := by decide
      rw [h0, ← hM0]; rfl)
     have HWT : RowKit.Hid (WT M0) := Lib.hid (by
      rw [← hM0]; have h0 : cellOf 35 = 0 := by decide
      have h1 := WT.read (m := noMsg) (by decide) (by have := HS0L.out; omega) hrd; rw [h0] at h1; exact h1)
     have HSN : RowKit.Hid (∀ s ∈ all, s.tag ≠ 98 → s.tag ≠ 18 → s.tag ≠ 530 → s.num ∈ numbered) := Lib.hid (fun s hs => by rw [← hall] at hs; exact slot_num hs); have HAN : RowKit.Hid (all.length ≤ 127) := Lib.hid (by rw [← hall]; exact slotsOf_len _); have HSLC : RowKit.Hid (∀ w1, Calls Tryz.prog 38 #[.int .i64 (gi M0 0)] w1 fun e w' => SlotsSay w1 w' e all ∧ Ext w1 w') := Lib.hid (fun w1 => by rw [← hall]; exact slots_calls _ w1); clear hrd hl0 hll hX hall hM0 HR; refine wp_region_rsteps (Turn (w.heap.size + 1 + 1) (.cells (msgV (M0)) 23)) (fun _ => by kernel_rfl) [.form 35 (formAt 35) (cellOf 35), .take (formAt 35) (cellOf 35), .is (.slice (some ⟨b, 0, none⟩) L cap), .is (.pointer (some ⟨b, 0, none⟩)), .is (.pointer (some ⟨b, 1, none⟩)), .is (.string ⟨s0.toArray⟩), .msg (.bool true), .is (.bool false)] (by kernel_rfl) ?_ ?_
     · refine And.intro ?_ (And.intro ?_ (And.intro ?_ (And.intro ?_ (And.intro ?_ (And.intro ?_ (And.intro ?_ (And.intro ?_ (True.intro))))))))
       · intro ρ w' hE hB hD; have ec := ctK hB
         have hB0 := fun f => hB (.func f) rfl
         clear hB hD; refine .inl ⟨rfl, ?_⟩; refine gives_call ent_fix_formOf (hB0 _) ?_; simp only [List.map_cons, List.map_nil, ec]; refine (form35_calls (w.heap.size + 1 + 1) w' (by have := HS0.out.msg.lt; have := hE.size; omega)).mono ?_; rintro e w'' ⟨⟨v, rfl, hv⟩, hE2⟩; exact ⟨v, rfl, TurnR.ofExt hE2, hv⟩
       · intro ρ w' hE hB hD; have r28 := hD 0 28 rfl rfl; change Rl.Post.p (.form 35 (formAt 35) (cellOf 35)) _ _ at r28; clear hB hD; refine .inl ⟨rfl, ?_⟩; unfold Gives; obtain ⟨fa, fb, fc, e28, h1, h2, h3⟩ := r28.is; go_simp; exact ⟨Rl.refl _ _, h3⟩
       · intro ρ w' hE hB hD; have e0 : ρ (.tmp 0) = _ := hB (.tmp 0) rfl; clear hB hD; refine .inl ⟨rfl, ?_⟩; unfold Gives; go_simp; first | done | exact yr1 | exact yr0 | exact yr2
       · intro ρ w' hE hB hD; have ec := ctK hB
         have h0 : 0 < L := HL0.out; have e30 : ρ (.tmp 30) = .slice (some ⟨b, 0, none⟩) L cap := hD 2 30 rfl rfl; clear hB hD; refine .inl ⟨rfl, ?_⟩; unfold Gives; go_simp; first | done | exact yr1 | exact yr0 | exact yr2
       · intro ρ w' hE hB hD; have e31 : ρ (.tmp 31) = .pointer (some ⟨b, 0, none⟩) := hD 3 31 rfl rfl; clear hB hD; refine .inl ⟨rfl, ?_⟩; unfold Gives; go_simp; first | done | exact yr1 | exact yr0 | exact yr2
       · intro ρ w' hE hB hD; have q1 := hE.cell HQ1.out (by have := HTB.out; omega); have e32 : ρ (.tmp 32) = .pointer (some ⟨b, 1, none⟩) := hD 4 32 rfl rfl; clear hB hD; refine .inl ⟨rfl, ?_⟩; unfold Gives; go_simp; first | done | exact yr1 | exact yr0 | exact yr2
       · intro ρ w' hE hB hD; have e4 : ρ (.tmp 4) = _ := hB (.tmp 4) rfl; have r29 := hD 1 29 rfl rfl; change Rl.Post.p (.take (formAt 35) (cellOf 35)) _ _ at r29; have e33 : ρ (.tmp 33) = .string ⟨s0.toArray⟩ := hD 5 33 rfl rfl; clear hB hD; refine .inl ⟨rfl, ?_⟩; obtain ⟨fid, caps, ef, h1, h2⟩ := r29; refine gives_callT h1 ef ?_; simp only [List.map_cons, List.map_nil, e4, e33]; have hext := hE.ext HS0.out.ext (by omega); have hold : MsgAt w' (w.heap.size + 1 + 1) noMsg ∨ MsgAt w' (w.heap.size + 1 + 1) (M0) := (hE.one HS0.out.msg.lt).imp (fun h => ⟨HS0.out.msg.wt, h.trans HS0.out.msg.blk⟩) (fun h => ⟨HWT.out, h⟩); rcases hold with hm | hm
         · refine (h2 w' ⟨rfl, rfl, rfl, Nat.le_refl _, fun _ _ _ => rfl⟩ (HE.out.ext hext) _ _ s0 hm HS0L.out).mono ?_; rw [HRD.out]; rintro e w'' ⟨rfl, hm2, hg⟩
           (try rw [HPUT.out] at hm2)
           exact ⟨_, rfl, TurnR.ofGrown hg hm2.blk, rfl, hm2⟩
         · refine (h2 w' ⟨rfl, rfl, rfl, Nat.le_refl _, fun _ _ _ => rfl⟩ (HE.out.ext hext) _ _ s0 hm HS0L.out).mono ?_; rw [HRD.out]; rintro e w'' ⟨rfl, hm2, hg⟩; have hm3 : MsgAt w'' (w.heap.size + 1 + 1) (M0) := by rw [HSET.out] at hm2; exact hm2
           exact ⟨_, rfl, TurnR.ofGrown hg hm3.blk, rfl, hm3⟩
       · intro ρ w' hE hB hD; have r34 := hD 6 34 rfl rfl; change Rl.Post.p (.msg (.bool true)) _ _ at r34; clear hB hD; refine .inl ⟨rfl, ?_⟩; unfold Gives; obtain ⟨e34, _⟩ := r34; go_simp; exact ⟨Rl.refl _ _, rfl⟩
     · intro a' w4 hE4 hd' hs' hB' hP' hN'; obtain ⟨x28, hx28⟩ : ∃ x, a'.eval (.tmp 28) = x := ⟨_, rfl⟩
       have r28 := hP' 0 28 rfl; change Rl.Post.p (.form 35 (formAt 35) (cellOf 35)) _ _ at r28; rw [hx28] at r28; obtain ⟨x29, hx29⟩ : ∃ x, a'.eval (.tmp 29) = x := ⟨_, rfl⟩
       have r29 := hP' 1 29 rfl; change Rl.Post.p (.take (formAt 35) (cellOf 35)) _ _ at r29; rw [hx29] at r29; obtain ⟨x34, hx34⟩ : ∃ x, a'.eval (.tmp 34) = x := ⟨_, rfl⟩
       have r34 := hP' 6 34 rfl; change Rl.Post.p (.msg (.bool true)) _ _ at r34; rw [hx34] at r34; have ha' := act_of_posts [(28, x28), (29, x29), (30, .slice (some ⟨b, 0, none⟩) L cap), (31, .pointer (some ⟨b, 0, none⟩)), (32, .pointer (some ⟨b, 1, none⟩)), (33, .string ⟨s0.toArray⟩), (34, x34), (35, .bool false)] hd' hs' hB' (by simp) (by kernel_rfl) (by
        intro p hp; simp only [List.mem_cons, List.mem_nil_iff, or_false] at hp
        rcases hp with rfl | rfl | rfl | rfl | rfl | rfl | rfl | rfl
        · exact hx28
        · exact hx29
        · exact hP' 2 30 rfl
        · exact hP' 3 31 rfl
        · exact hP' 4 32 rfl
        · exact hP' 5 33 rfl
        · exact hx34
        · exact hP' 7 35 rfl)
       clear hB' hP' hs' hd'; simp only [List.foldl_cons, List.foldl_nil, List.setIfInBounds_toArray, List.set_cons_succ, List.set_cons_zero] at ha'; subst ha'; clear hx28 hx29 hx34; have HS4 := Lib.hid (HS0.out.turned hE4 r34.2); obtain ⟨rfl, _⟩ := r34; clear hE4 r28 r29; clear HS0; have ck := HS4.out.msg.cell (k := 0) (by decide); rw [cellAt_int HS4.out.msg.wt (k := 0) rfl] at ck; obtain ⟨kind, hkind⟩ : ∃ n, gi M0 0 = n := ⟨_, rfl⟩
       rw [hkind] at ck HSLC; clear hkind; go_wp2_with fail; refine (HSLC.out _).mono ?_; rintro e w5 ⟨⟨sv, rfl, hown⟩, hE5⟩; have HS5 := Lib.hid (HS4.out.more hE5); have hown1 : OwnSl w5 (w.heap.size + 1 + 1 + 1) sv all := hown.more (by have := HS4.out.msg.lt; omega); obtain ⟨SA, scap, rfl, _⟩ := hown1.reads.is; have HOWN := Lib.hid hown1; obtain ⟨N, hN⟩ : ∃ n, all.length = n := ⟨_, rfl⟩
       rw [hN] at HAN HOWN ⊢; have HNN := Lib.hid hN; clear hown hown1 hE5 hN ck HSLC HS4; go_wp2_with fail; go_loopw [6] (fun i wr => ∃ (k : Nat) (M : Msg), 1 ≤ k ∧ k ≤ L ∧ i = .int .i64 k ∧ RdS w wr M ∧ OwnSl wr (w.heap.size + 1 + 1 + 1) (.slice SA N scap) all ∧ readFrom all l k M (l.drop k) = X) (fun i _ => L - (intOf i).toNat)
       case atStart => exact ⟨1, M0, by omega, by omega, rfl, HS5.out, HOWN.out, by rw [HDROP.out]; exact HXX.out⟩
       case round =>
        obtain ⟨k, M, hk1, hk, rfl, hrd, hown, hrf⟩ := hrel; have HRD := Lib.hid hrd; have HOW := Lib.hid hown; have HRF := Lib.hid hrf; clear HOWN HS5 HXX hrd hown hrf; by_cases hlt : k < L
        · have hkl : k < l.length := by rw [HLEN.out]; exact hlt
          have hdr : l.drop k = l[k] :: l.drop (k + 1) := List.drop_eq_getElem_cons hkl; have hcell := HAT.out k hkl; have hvl := HV.out l[k] (List.getElem_mem hkl); obtain ⟨⟨tag, val⟩, hf⟩ : ∃ f, l[k] = f := ⟨_, rfl⟩
          rw [hf] at hdr hcell hvl; dsimp only at hcell hvl; have HDR := Lib.hid hdr; have HCL := Lib.hid hcell; have HVL := Lib.hid hvl; obtain ⟨rest, hrest⟩ : ∃ q, l.drop (k + 1) = q := ⟨_, rfl⟩
          rw [hrest] at HDR; have HREST := Lib.hid hrest; have HFIND := Lib.hid (fun w1 (h : OwnSl w1 (w.heap.size + 1 + 1 + 1) (.slice SA N scap) all) => find_calls (.slice SA N scap) all tag w1 (by have := HNN.out; have := HAN.out; omega) h.reads); obtain ⟨pl, hpl⟩ : ∃ q, placeOf l tag = q := ⟨_, rfl⟩
          obtain ⟨tx, htx⟩ : ∃ q, textOf l tag = q := ⟨_, rfl⟩
          have HVALUE : RowKit.Hid (∀ w1, Ext w w1 → Calls Tryz.prog 90 #[.slice (some ⟨b, 0, none⟩) L cap, .int .i64 tag] w1 fun e w' => e = .returned (.tuple #[.int .i64 pl, .string ⟨tx.toArray⟩]) ∧ Ext w1 w') := Lib.hid (fun w1 h1 => by rw [← hpl, ← htx]; exact value_calls _ l tag w1 (by rw [HLEN.out]; exact HL.out) (HF.out.ext h1)); have HPL := Lib.hid hpl; have HKN := Lib.hid (known_calls tag); have q0 := HRD.out.ext.cell HCL.out.1; have hki : (k : Int) < (L : Int) := by omega
          clear hdr hcell hvl hf hrest hpl htx hkl; go_wp2_with fail; refine (HFIND.out _ HOW.out).mono ?_; rintro e w6 ⟨rfl, hE6⟩; have HS6 := Lib.hid (HRD.out.more hE6); have HO6 := Lib.hid (HOW.out.ext hE6); clear q0 hE6; cases hfs : findSlot all tag with
          | none =>
           have HFS := Lib.hid hfs; unfold findV; clear hfs; have hXa : Ext w6 (w6.alloc (.cells #[.int .i64 0, .int .i64 0, .bool false] 76)) := (Ext.refl _).alloc _; have q0 := (HS6.out.more hXa).ext.cell HCL.out.1; have HS7 := Lib.hid (HS6.out.more hXa); clear hXa; go_wp2_with fail; refine (HVALUE.out _ HS7.out.ext).mono ?_; rintro e w8 ⟨rfl, hE8⟩; have HS8 := Lib.hid (HS7.out.more hE8); have q0 := HS8.out.ext.cell HCL.out.1; clear hE8 HS7 HS6; cases hkn : knownTag tag with
           | false =>
            rw [hkn] at HKN; have e : R = (M, (52, (k : Int), tag)) := by
             have h1 := rf_unknown (all := all) (l := l) (rest := rest) (k := k) (M := M) (s := val) HFS.out hkn; rw [← HDR.out, HRF.out] at h1; rw [HRX.out (by rw [h1]; show (52 : Int) ≠ 0; decide), h1]
            subst e; clear hkn; go_wp2_with fail; refine (HKN.out _).mono ?_; rintro e w9 ⟨rfl, hE9⟩; have HS9 := Lib.hid (HS8.out.more hE9); have HTAG := Lib.hid (HS9.out.ext.cell HCL.out.1); clear hE9 q0; have HKL : RowKit.Hid ((k : Int) < (L : Int) ∧ k < L) := Lib.hid ⟨hki, hlt⟩; go_wp2_with fail; refine wp_region_rsteps (Rets w.heap.size (w.heap.size + 1) (.cells (msgV M) 23) (.cells (flawV (52, (k : Int), tag)) 81)) (fun _ => by kernel_rfl) [.is (.agg (msgV M)), .is (.int .i64 k), .is (.slice (some ⟨b, 0, none⟩) L cap), .is (.int .i64 k), .is (.pointer (some ⟨b, k * 2, none⟩)), .is (.pointer (some ⟨b, k * 2, none⟩)), .is (.int .i64 tag), .is (.agg (flawV (52, (k : Int), tag))), .laid1, .laid2] (by kernel_rfl) ?_ ?_
            · refine And.intro ?_ (And.intro ?_ (And.intro ?_ (And.intro ?_ (And.intro ?_ (And.intro ?_ (And.intro ?_ (And.intro ?_ (And.intro ?_ (And.intro ?_ (True.intro))))))))))
              · intro ρ w' hE hB hD; have hrow := hE.msgRow HS9.out.msg (by omega) (by omega); have hsz := msgV_size HS9.out.msg.wt; have e4 : ρ (.tmp 4) = _ := hB (.tmp 4) rfl; clear hB hD; refine .inl ⟨rfl, ?_⟩; unfold Gives; go_simp; first | done | exact yr1 | exact yr0 | exact yr2
              · intro ρ w' hE hB hD; have e6 : ρ (.tmp 6) = _ := hB (.tmp 6) rfl; clear hB hD; refine .inl ⟨rfl, ?_⟩; unfold Gives; go_simp; first | done | exact yr1 | exact yr0 | exact yr2
              · intro ρ w' hE hB hD; have e0 : ρ (.tmp 0) = _ := hB (.tmp 0) rfl; clear hB hD; refine .inl ⟨rfl, ?_⟩; unfold Gives; go_simp; first | done | exact yr1 | exact yr0 | exact yr2
              · intro ρ w' hE hB hD; have e6 : ρ (.tmp 6) = _ := hB (.tmp 6) rfl; clear hB hD; refine .inl ⟨rfl, ?_⟩; unfold Gives; go_simp; first | done | exact yr1 | exact yr0 | exact yr2
              · intro ρ w' hE hB hD; have e81 : ρ (.tmp 81) = .slice (some ⟨b, 0, none⟩) L cap := hD 2 81 rfl rfl; have e82 : ρ (.tmp 82) = .int .i64 k := hD 3 82 rfl rfl; clear hB hD; refine .inl ⟨rfl, ?_⟩; unfold Gives; go_simp; first | done | exact yr1 | exact yr0 | exact yr2
              · intro ρ w' hE hB hD; have e83 : ρ (.tmp 83) = .pointer (some ⟨b, k * 2, none⟩) := hD 4 83 rfl rfl; clear hB hD; refine .inl ⟨rfl, ?_⟩; unfold Gives; go_simp; first | done | exact yr1 | exact yr0 | exact yr2
              · intro ρ w' hE hB hD; have q0 := hE.cell HTAG.out (by have := HTB.out; omega) (by have := HTB.out; omega); have e84 : ρ (.tmp 84) = .pointer (some ⟨b, k * 2, none⟩) := hD 5 84 rfl rfl; clear hB hD; refine .inl ⟨rfl, ?_⟩; unfold Gives; go_simp; first | done | exact yr1 | exact yr0 | exact yr2
              · intro ρ w' hE hB hD; have ec := ctK hB
                have e80 : ρ (.tmp 80) = .int .i64 k := hD 1 80 rfl rfl; have e85 : ρ (.tmp 85) = .int .i64 tag := hD 6 85 rfl rfl; clear hB hD; refine .inl ⟨rfl, ?_⟩; unfold Gives; go_simp; first | done | exact yr1 | exact yr0 | exact yr2
              · intro ρ w' hE hB hD; have e2 : ρ (.tmp 2) = _ := hB (.tmp 2) rfl; have e79 : ρ (.tmp 79) = .agg (msgV M) := hD 0 79 rfl rfl; clear hB hD; refine .inl ⟨rfl, ?_⟩; exact gives_lay1 hE e2 e79 HS9.out.msg.wt HS9.out.r2 (by omega)
              · intro ρ w' hE hB hD; have e3 : ρ (.tmp 3) = _ := hB (.tmp 3) rfl; have e86 : ρ (.tmp 86) = .agg (flawV (52, (k : Int), tag)) := hD 7 86 rfl rfl; clear hB hD; refine .inl ⟨rfl, ?_⟩; exact gives_lay2 hE e3 e86 HS9.out.r3 (by omega)
            · intro a' wz hE1 hd' hs' hB' hP' hN'; obtain ⟨_, b2⟩ := hN' 8 rfl; obtain ⟨_, b3⟩ := hN' 9 rfl; change Rl.Post.p Rl.Post.laid1 _ _ at b2; change Rl.Post.p Rl.Post.laid2 _ _ at b3; have e2 := hB' (.tmp 2) rfl; have e3 := hB' (.tmp 3) rfl; clear hB' hP' hN' hs'; go_wp2; exact read_ret HS9.out hE1 b2 b3 e2 e3 hd'
           | true =>
            rw [hkn] at HKN; have e : R = (M, (53, (k : Int), tag)) := by
             have h1 := rf_foreign (all := all) (l := l) (rest := rest) (k := k) (M := M) (s := val) HFS.out hkn; rw [← HDR.out, HRF.out] at h1; rw [HRX.out (by rw [h1]; show (53 : Int) ≠ 0; decide), h1]
            subst e; clear hkn; go_wp2_with fail; refine (HKN.out _).mono ?_; rintro e w9 ⟨rfl, hE9⟩; have HS9 := Lib.hid (HS8.out.more hE9); have HTAG := Lib.hid (HS9.out.ext.cell HCL.out.1); clear hE9 q0; have HKL : RowKit.Hid ((k : Int) < (L : Int) ∧ k < L) := Lib.hid ⟨hki, hlt⟩; go_wp2_with fail; refine wp_region_rsteps (Rets w.heap.size (w.heap.size + 1) (.cells (msgV M) 23) (.cells (flawV (53, (k : Int), tag)) 81)) (fun _ => by kernel_rfl) [.is (.agg (msgV M)), .is (.int .i64 k), .is (.slice (some ⟨b, 0, none⟩) L cap), .is (.int .i64 k), .is (.pointer (some ⟨b, k * 2, none⟩)), .is (.pointer (some ⟨b, k * 2, none⟩)), .is (.int .i64 tag), .is (.agg (flawV (53, (k : Int), tag))), .laid1, .laid2] (by kernel_rfl) ?_ ?_
            · refine And.intro ?_ (And.intro ?_ (And.intro ?_ (And.intro ?_ (And.intro ?_ (And.intro ?_ (And.intro ?_ (And.intro ?_ (And.intro ?_ (And.intro ?_ (True.intro))))))))))
              · intro ρ w' hE hB hD; have hrow := hE.msgRow HS9.out.msg (by omega) (by omega); have hsz := msgV_size HS9.out.msg.wt; have e4 : ρ (.tmp 4) = _ := hB (.tmp 4) rfl; clear hB hD; refine .inl ⟨rfl, ?_⟩; unfold Gives; go_simp; first | done | exact yr1 | exact yr0 | exact yr2
              · intro ρ w' hE hB hD; have e6 : ρ (.tmp 6) = _ := hB (.tmp 6) rfl; clear hB hD; refine .inl ⟨rfl, ?_⟩; unfold Gives; go_simp; first | done | exact yr1 | exact yr0 | exact yr2
              · intro ρ w' hE hB hD; have e0 : ρ (.tmp 0) = _ := hB (.tmp 0) rfl; clear hB hD; refine .inl ⟨rfl, ?_⟩; unfold Gives; go_simp; first | done | exact yr1 | exact yr0 | exact yr2
              · intro ρ w' hE hB hD; have e6 : ρ (.tmp 6) = _ := hB (.tmp 6) rfl; clear hB hD; refine .inl ⟨rfl, ?_⟩; unfold Gives; go_simp; first | done | exact yr1 | exact yr0 | exact yr2
              · intro ρ w' hE hB hD; have e92 : ρ (.tmp 92) = .slice (some ⟨b, 0, none⟩) L cap := hD 2 92 rfl rfl; have e93 : ρ (.tmp 93) = .int .i64 k := hD 3 93 rfl rfl; clear hB hD; refine .inl ⟨rfl, ?_⟩; unfold Gives; go_simp; first | done | exact yr1 | exact yr0 | exact yr2
              · intro ρ w' hE hB hD; have e94 : ρ (.tmp 94) = .pointer (some ⟨b, k * 2, none⟩) := hD 4 94 rfl rfl; clear hB hD; refine .inl ⟨rfl, ?_⟩; unfold Gives; go_simp; first | done | exact yr1 | exact yr0 | exact yr2
              · intro ρ w' hE hB hD; have q0 := hE.cell HTAG.out (by have := HTB.out; omega) (by have := HTB.out; omega); have e95 : ρ (.tmp 95) = .pointer (some ⟨b, k * 2, none⟩) := hD 5 95 rfl rfl; clear hB hD; refine .inl ⟨rfl, ?_⟩; unfold Gives; go_simp; first | done | exact yr1 | exact yr0 | exact yr2
              · intro ρ w' hE hB hD; have ec := ctK hB
                have e91 : ρ (.tmp 91) = .int .i64 k := hD 1 91 rfl rfl; have e96 : ρ (.tmp 96) = .int .i64 tag := hD 6 96 rfl rfl; clear hB hD; refine .inl ⟨rfl, ?_⟩; unfold Gives; go_simp; first | done | exact yr1 | exact yr0 | exact yr2
              · intro ρ w' hE hB hD; have e2 : ρ (.tmp 2) = _ := hB (.tmp 2) rfl; have e90 : ρ (.tmp 90) = .agg (msgV M) := hD 0 90 rfl rfl; clear hB hD; refine .inl ⟨rfl, ?_⟩; exact gives_lay1 hE e2 e90 HS9.out.msg.wt HS9.out.r2 (by omega)
              · intro ρ w' hE hB hD; have e3 : ρ (.tmp 3) = _ := hB (.tmp 3) rfl; have e97 : ρ (.tmp 97) = .agg (flawV (53, (k : Int), tag)) := hD 7 97 rfl rfl; clear hB hD; refine .inl ⟨rfl, ?_⟩; exact gives_lay2 hE e3 e97 HS9.out.r3 (by omega)
            · intro a' wz hE1 hd' hs' hB' hP' hN'; obtain ⟨_, b2⟩ := hN' 8 rfl; obtain ⟨_, b3⟩ := hN' 9 rfl; change Rl.Post.p Rl.Post.laid1 _ _ at b2; change Rl.Post.p Rl.Post.laid2 _ _ at b3; have e2 := hB' (.tmp 2) rfl; have e3 := hB' (.tmp 3) rfl; clear hB' hP' hN' hs'; go_wp2; exact read_ret HS9.out hE1 b2 b3 e2 e3 hd'
          | some sl =>
           have HFS := Lib.hid hfs; have hmem : sl ∈ all := List.mem_of_find?_eq_some hfs; have HSM := Lib.hid (HSN.out sl hmem); unfold findV; clear hfs hmem; have hXa : Ext w6 (w6.alloc (.cells (slotV sl) 76)) := (Ext.refl _).alloc _; have hq0 := (HS6.out.more hXa).ext.cell HCL.out.1; have HS7 := Lib.hid (HS6.out.more hXa); have HO7 := Lib.hid (HO6.out.ext hXa); have HSB := Lib.hid (heap_alloc_new w6 (.cells (slotV sl) 76)); have HSBL : RowKit.Hid (w.heap.size + 1 + 1 < w6.heap.size) := Lib.hid HS6.out.msg.lt; clear hXa; obtain ⟨st, sn, sm⟩ := sl; unfold slotV at HSB HS7 HO7 hq0 ⊢; dsimp only at HSB HS7 HO7 hq0 ⊢; go_wp2_with fail; refine (HVALUE.out _ HS7.out.ext).mono ?_; rintro e w8 ⟨rfl, hE8⟩; have HS9 := Lib.hid (HS7.out.more hE8); have HO9 := Lib.hid (HO7.out.ext hE8); have HB9 := Lib.hid (hE8.heap HSB.out); have HTAG := Lib.hid (HS9.out.ext.cell HCL.out.1); have HTV := Lib.hid (HS9.out.ext.cell HCL.out.2); clear hE8 HS7 HS6 HO7 HO6 HSB hq0; have HKL : RowKit.Hid ((k : Int) < (L : Int) ∧ k < L) := Lib.hid ⟨hki, hlt⟩; by_cases hpk : pl < (k : Int)
           · have e : R = (M, (51, (k : Int), tag)) := by
              have h1 := rf_twice (all := all) (l := l) (rest := rest) (k := k) (M := M) (s := val) HFS.out (by rw [HPL.out]; exact hpk); rw [← HDR.out, HRF.out] at h1; rw [HRX.out (by rw [h1]; show (51 : Int) ≠ 0; decide), h1]
             subst e; go_wp2_with fail; refine wp_region_rsteps (Rets w.heap.size (w.heap.size + 1) (.cells (msgV M) 23) (.cells (flawV (51, (k : Int), tag)) 81)) (fun _ => by kernel_rfl) [.is (.agg (msgV M)), .is (.int .i64 k), .is (.slice (some ⟨b, 0, none⟩) L cap), .is (.int .i64 k), .is (.pointer (some ⟨b, k * 2, none⟩)), .is (.pointer (some ⟨b, k * 2, none⟩)), .is (.int .i64 tag), .is (.agg (flawV (51, (k : Int), tag))), .laid1, .laid2] (by kernel_rfl) ?_ ?_
             · refine And.intro ?_ (And.intro ?_ (And.intro ?_ (And.intro ?_ (And.intro ?_ (And.intro ?_ (And.intro ?_ (And.intro ?_ (And.intro ?_ (And.intro ?_ (True.intro))))))))))
               · intro ρ w' hE hB hD; have hrow := hE.msgRow HS9.out.msg (by omega) (by omega); have hsz := msgV_size HS9.out.msg.wt; have e4 : ρ (.tmp 4) = _ := hB (.tmp 4) rfl; clear hB hD; refine .inl ⟨rfl, ?_⟩; unfold Gives; go_simp; first | done | exact yr1 | exact yr0 | exact yr2
               · intro ρ w' hE hB hD; have e6 : ρ (.tmp 6) = _ := hB (.tmp 6) rfl; clear hB hD; refine .inl ⟨rfl, ?_⟩; unfold Gives; go_simp; first | done | exact yr1 | exact yr0 | exact yr2
               · intro ρ w' hE hB hD; have e0 : ρ (.tmp 0) = _ := hB (.tmp 0) rfl; clear hB hD; refine .inl ⟨rfl, ?_⟩; unfold Gives; go_simp; first | done | exact yr1 | exact yr0 | exact yr2
               · intro ρ w' hE hB hD; have e6 : ρ (.tmp 6) = _ := hB (.tmp 6) rfl; clear hB hD; refine .inl ⟨rfl, ?_⟩; unfold Gives; go_simp; first | done | exact yr1 | exact yr0 | exact yr2
               · intro ρ w' hE hB hD; have e104 : ρ (.tmp 104) = .slice (some ⟨b, 0, none⟩) L cap := hD 2 104 rfl rfl; have e105 : ρ (.tmp 105) = .int .i64 k := hD 3 105 rfl rfl; clear hB hD; refine .inl ⟨rfl, ?_⟩; unfold Gives; go_simp; first | done | exact yr1 | exact yr0 | exact yr2
               · intro ρ w' hE hB hD; have e106 : ρ (.tmp 106) = .pointer (some ⟨b, k * 2, none⟩) := hD 4 106 rfl rfl; clear hB hD; refine .inl ⟨rfl, ?_⟩; unfold Gives; go_simp; first | done | exact yr1 | exact yr0 | exact yr2
               · intro ρ w' hE hB hD; have q0 := hE.cell HTAG.out (by have := HTB.out; omega) (by have := HTB.out; omega); have e107 : ρ (.tmp 107) = .pointer (some ⟨b, k * 2, none⟩) := hD 5 107 rfl rfl; clear hB hD; refine .inl ⟨rfl, ?_⟩; unfold Gives; go_simp; first | done | exact yr1 | exact yr0 | exact yr2
               · intro ρ w' hE hB hD; have ec := ctK hB
                 have e103 : ρ (.tmp 103) = .int .i64 k := hD 1 103 rfl rfl; have e108 : ρ (.tmp 108) = .int .i64 tag := hD 6 108 rfl rfl; clear hB hD; refine .inl ⟨rfl, ?_⟩; unfold Gives; go_simp; first | done | exact yr1 | exact yr0 | exact yr2
               · intro ρ w' hE hB hD; have e2 : ρ (.tmp 2) = _ := hB (.tmp 2) rfl; have e102 : ρ (.tmp 102) = .agg (msgV M) := hD 0 102 rfl rfl; clear hB hD; refine .inl ⟨rfl, ?_⟩; exact gives_lay1 hE e2 e102 HS9.out.msg.wt HS9.out.r2 (by omega)
               · intro ρ w' hE hB hD; have e3 : ρ (.tmp 3) = _ := hB (.tmp 3) rfl; have e109 : ρ (.tmp 109) = .agg (flawV (51, (k : Int), tag)) := hD 7 109 rfl rfl; clear hB hD; refine .inl ⟨rfl, ?_⟩; exact gives_lay2 hE e3 e109 HS9.out.r3 (by omega)
             · intro a' wz hE1 hd' hs' hB' hP' hN'; obtain ⟨_, b2⟩ := hN' 8 rfl; obtain ⟨_, b3⟩ := hN' 9 rfl; change Rl.Post.p Rl.Post.laid1 _ _ at b2; change Rl.Post.p Rl.Post.laid2 _ _ at b3; have e2 := hB' (.tmp 2) rfl; have e3 := hB' (.tmp 3) rfl; clear hB' hP' hN' hs'; go_wp2; exact read_ret HS9.out hE1 b2 b3 e2 e3 hd'
           · have hpk2 : (k : Int) ≤ pl := by omega
             obtain ⟨fr, hfr⟩ : ∃ q, fitsIn ⟨st, sn, sm⟩ M val = q := ⟨_, rfl⟩
             have HFR := Lib.hid hfr; obtain ⟨M1, hM1⟩ : ∃ q, fr.getD M = q := ⟨_, rfl⟩
             have HFITS : RowKit.Hid (∀ w1, Ext w w1 → (MsgAt w1 (w.heap.size + 1 + 1) M ∨ MsgAt w1 (w.heap.size + 1 + 1) M1) → Calls Tryz.prog 92 #[.agg #[.int .i64 st, .int .i64 sn, .bool sm], .pointer (some ⟨w.heap.size + 1 + 1, 0, none⟩), .string ⟨val.toArray⟩] w1 fun e w' => e = .returned (.bool fr.isSome) ∧ MsgAt w' (w.heap.size + 1 + 1) M1 ∧ w1.grownBy w' (some (w.heap.size + 1 + 1))) := Lib.hid (fun w1 h1 h2 => by
              rcases h2 with h2 | h2
              · refine (slotFits_calls ⟨st, sn, sm⟩ _ M val w1 h2 (HE.out.ext h1) HSM.out HVL.out).mono ?_; rw [HFR.out]; rintro e w' ⟨a, b', c'⟩; exact ⟨a, by rw [← hM1]; exact b', c'⟩
              · refine (slotFits_calls ⟨st, sn, sm⟩ _ M1 val w1 h2 (HE.out.ext h1) HSM.out HVL.out).mono ?_; obtain ⟨g1, g2⟩ := fitsIn_again ⟨st, sn, sm⟩ M val; rw [HFR.out, hM1] at g1 g2; rintro e w' ⟨a, b', c'⟩; exact ⟨by rw [a, g1], by rw [g2] at b'; exact b', c'⟩)
             have HWT1 : RowKit.Hid (∀ w1, MsgAt w1 (w.heap.size + 1 + 1) M1 → WT M1) := Lib.hid (fun w1 h => h.wt); have HM1 := Lib.hid hM1; have HWTM1 : RowKit.Hid (WT M1) := Lib.hid (by
              rw [← hM1, ← hfr]; exact WT.fits1 HRD.out.msg.wt (by have := HVL.out; omega))
             clear hfr hM1; cases fr with
             | none =>
              have e : R = (M1, (31, (k : Int), tag)) := by
               have h1 := rf_bad (all := all) (l := l) (rest := rest) (k := k) (M := M) (s := val) HFS.out (by rw [HPL.out]; exact hpk) HFR.out; rw [← HDR.out, HRF.out] at h1; have h2 : M = M1 := HM1.out; rw [HRX.out (by rw [h1]; show (31 : Int) ≠ 0; decide), h1, h2]
              subst e; go_wp2_with fail; refine wp_region_rsteps (Turn (w.heap.size + 1 + 1) (.cells (msgV M1) 23)) (fun _ => by kernel_rfl) [.is (.agg #[.int .i64 st, .int .i64 sn, .bool sm]), .is (.slice (some ⟨b, 0, none⟩) L cap), .is (.int .i64 k), .is (.pointer (some ⟨b, k * 2, none⟩)), .is (.pointer (some ⟨b, k * 2 + 1, none⟩)), .is (.string ⟨val.toArray⟩), .msg (.bool false), .is (.bool true), .is (.bool true)] (by kernel_rfl) ?_ ?_
              · refine And.intro ?_ (And.intro ?_ (And.intro ?_ (And.intro ?_ (And.intro ?_ (And.intro ?_ (And.intro ?_ (And.intro ?_ (And.intro ?_ (True.intro)))))))))
                · intro ρ w' hE hB hD; obtain ⟨hq, _⟩ := blk_facts ((hE.block _ (Array.getElem?_eq_some_iff.1 HB9.out).1 (by have := HSBL.out; omega)).trans HB9.out); have q0 := hq 0; have q1 := hq 1; have q2 := hq 2; simp at q0 q1 q2; clear hq; have e7 : ρ (.tmp 7) = _ := hB (.tmp 7) rfl; clear hB hD; refine .inl ⟨rfl, ?_⟩; unfold Gives; go_simp; first | done | exact yr1 | exact yr0 | exact yr2
                · intro ρ w' hE hB hD; have e0 : ρ (.tmp 0) = _ := hB (.tmp 0) rfl; clear hB hD; refine .inl ⟨rfl, ?_⟩; unfold Gives; go_simp; first | done | exact yr1 | exact yr0 | exact yr2
                · intro ρ w' hE hB hD; have e6 : ρ (.tmp 6) = _ := hB (.tmp 6) rfl; clear hB hD; refine .inl ⟨rfl, ?_⟩; unfold Gives; go_simp; first | done | exact yr1 | exact yr0 | exact yr2
                · intro ρ w' hE hB hD; have h1 := HKL.out.1; have h2 := HKL.out.2; have e112 : ρ (.tmp 112) = .slice (some ⟨b, 0, none⟩) L cap := hD 1 112 rfl rfl; have e113 : ρ (.tmp 113) = .int .i64 k := hD 2 113 rfl rfl; clear hB hD; refine .inl ⟨rfl, ?_⟩; unfold Gives; go_simp; first | done | exact yr1 | exact yr0 | exact yr2
                · intro ρ w' hE hB hD; have e114 : ρ (.tmp 114) = .pointer (some ⟨b, k * 2, none⟩) := hD 3 114 rfl rfl; clear hB hD; refine .inl ⟨rfl, ?_⟩; unfold Gives; go_simp; first | done | exact yr1 | exact yr0 | exact yr2
                · intro ρ w' hE hB hD; have q1 := hE.cell HTV.out (by have := HTB.out; omega); have e115 : ρ (.tmp 115) = .pointer (some ⟨b, k * 2 + 1, none⟩) := hD 4 115 rfl rfl; clear hB hD; refine .inl ⟨rfl, ?_⟩; unfold Gives; go_simp; first | done | exact yr1 | exact yr0 | exact yr2
                · intro ρ w' hE hB hD; have hB0 := fun f => hB (.func f) rfl
                  have e4 : ρ (.tmp 4) = _ := hB (.tmp 4) rfl; have e111 : ρ (.tmp 111) = .agg #[.int .i64 st, .int .i64 sn, .bool sm] := hD 0 111 rfl rfl; have e116 : ρ (.tmp 116) = .string ⟨val.toArray⟩ := hD 5 116 rfl rfl; clear hB hD; refine .inl ⟨rfl, ?_⟩; refine gives_call ent_fix_slot_fits (hB0 _) ?_; simp only [List.map_cons, List.map_nil, e4, e111, e116]; refine (HFITS.out w' (hE.ext HS9.out.ext (by omega)) ((hE.one HS9.out.msg.lt).imp (fun h => ⟨HS9.out.msg.wt, h.trans HS9.out.msg.blk⟩) (fun h => ⟨HWTM1.out, h⟩))).mono ?_; rintro e w'' ⟨rfl, hm2, hg⟩; exact ⟨_, rfl, TurnR.ofGrown hg hm2.blk, rfl, hm2⟩
                · intro ρ w' hE hB hD; have r117 := hD 6 117 rfl rfl; change Rl.Post.p (.msg (.bool false)) _ _ at r117; clear hB hD; refine .inl ⟨rfl, ?_⟩; unfold Gives; obtain ⟨e117, _⟩ := r117; go_simp; exact ⟨Rl.refl _ _, rfl⟩
                · intro ρ w' hE hB hD; have e118 : ρ (.tmp 118) = .bool true := hD 7 118 rfl rfl; clear hB hD; refine .inl ⟨rfl, ?_⟩; unfold Gives; go_simp; first | done | exact yr1 | exact yr0 | exact yr2
              · intro a' w18 hE18 hd' hs' hB' hP' hN'; obtain ⟨x117, hx117⟩ : ∃ x, a'.eval (.tmp 117) = x := ⟨_, rfl⟩
                have r117 := hP' 6 117 rfl; change Rl.Post.p (.msg (.bool false)) _ _ at r117; rw [hx117] at r117; have ha' := act_of_posts [(111, .agg #[.int .i64 st, .int .i64 sn, .bool sm]), (112, .slice (some ⟨b, 0, none⟩) L cap), (113, .int .i64 k), (114, .pointer (some ⟨b, k * 2, none⟩)), (115, .pointer (some ⟨b, k * 2 + 1, none⟩)), (116, .string ⟨val.toArray⟩), (117, x117), (118, .bool true), (110, .bool true)] hd' hs' hB' (by simp) (by kernel_rfl) (by
                 intro p hp; simp only [List.mem_cons, List.mem_nil_iff, or_false] at hp
                 rcases hp with rfl | rfl | rfl | rfl | rfl | rfl | rfl | rfl | rfl
                 · exact hP' 0 111 rfl
                 · exact hP' 1 112 rfl
                 · exact hP' 2 113 rfl
                 · exact hP' 3 114 rfl
                 · exact hP' 4 115 rfl
                 · exact hP' 5 116 rfl
                 · exact hx117
                 · exact hP' 7 118 rfl
                 · exact hP' 8 110 rfl)
                clear hB' hP' hs' hd'; simp only [List.foldl_cons, List.foldl_nil, List.setIfInBounds_toArray, List.set_cons_succ, List.set_cons_zero] at ha'; subst ha'; clear hx117; have HS18 := Lib.hid (HS9.out.turned hE18 r117.2); have HO18 := Lib.hid (HO9.out.turned hE18 (by omega)); obtain ⟨rfl, _⟩ := r117; clear hE18; clear HS9 HTAG; have HS9 := HS18; have HTAG := Lib.hid (HS9.out.ext.cell HCL.out.1); go_wp2_with fail; refine wp_region_rsteps (Rets w.heap.size (w.heap.size + 1) (.cells (msgV M1) 23) (.cells (flawV (31, (k : Int), tag)) 81)) (fun _ => by kernel_rfl) [.is (.agg (msgV M1)), .is (.int .i64 k), .is (.slice (some ⟨b, 0, none⟩) L cap), .is (.int .i64 k), .is (.pointer (some ⟨b, k * 2, none⟩)), .is (.pointer (some ⟨b, k * 2, none⟩)), .is (.int .i64 tag), .is (.agg (flawV (31, (k : Int), tag))), .laid1, .laid2] (by kernel_rfl) ?_ ?_
                · refine And.intro ?_ (And.intro ?_ (And.intro ?_ (And.intro ?_ (And.intro ?_ (And.intro ?_ (And.intro ?_ (And.intro ?_ (And.intro ?_ (And.intro ?_ (True.intro))))))))))
                  · intro ρ w' hE hB hD; have hrow := hE.msgRow HS9.out.msg (by omega) (by omega); have hsz := msgV_size HS9.out.msg.wt; have e4 : ρ (.tmp 4) = _ := hB (.tmp 4) rfl; clear hB hD; refine .inl ⟨rfl, ?_⟩; unfold Gives; go_simp; first | done | exact yr1 | exact yr0 | exact yr2
                  · intro ρ w' hE hB hD; have e6 : ρ (.tmp 6) = _ := hB (.tmp 6) rfl; clear hB hD; refine .inl ⟨rfl, ?_⟩; unfold Gives; go_simp; first | done | exact yr1 | exact yr0 | exact yr2
                  · intro ρ w' hE hB hD; have e0 : ρ (.tmp 0) = _ := hB (.tmp 0) rfl; clear hB hD; refine .inl ⟨rfl, ?_⟩; unfold Gives; go_simp; first | done | exact yr1 | exact yr0 | exact yr2
                  · intro ρ w' hE hB hD; have e6 : ρ (.tmp 6) = _ := hB (.tmp 6) rfl; clear hB hD; refine .inl ⟨rfl, ?_⟩; unfold Gives; go_simp; first | done | exact yr1 | exact yr0 | exact yr2
                  · intro ρ w' hE hB hD; have e121 : ρ (.tmp 121) = .slice (some ⟨b, 0, none⟩) L cap := hD 2 121 rfl rfl; have e122 : ρ (.tmp 122) = .int .i64 k := hD 3 122 rfl rfl; clear hB hD; refine .inl ⟨rfl, ?_⟩; unfold Gives; go_simp; first | done | exact yr1 | exact yr0 | exact yr2
                  · intro ρ w' hE hB hD; have e123 : ρ (.tmp 123) = .pointer (some ⟨b, k * 2, none⟩) := hD 4 123 rfl rfl; clear hB hD; refine .inl ⟨rfl, ?_⟩; unfold Gives; go_simp; first | done | exact yr1 | exact yr0 | exact yr2
                  · intro ρ w' hE hB hD; have q0 := hE.cell HTAG.out (by have := HTB.out; omega) (by have := HTB.out; omega); have e124 : ρ (.tmp 124) = .pointer (some ⟨b, k * 2, none⟩) := hD 5 124 rfl rfl; clear hB hD; refine .inl ⟨rfl, ?_⟩; unfold Gives; go_simp; first | done | exact yr1 | exact yr0 | exact yr2
                  · intro ρ w' hE hB hD; have ec := ctK hB
                    have e120 : ρ (.tmp 120) = .int .i64 k := hD 1 120 rfl rfl; have e125 : ρ (.tmp 125) = .int .i64 tag := hD 6 125 rfl rfl; clear hB hD; refine .inl ⟨rfl, ?_⟩; unfold Gives; go_simp; first | done | exact yr1 | exact yr0 | exact yr2
                  · intro ρ w' hE hB hD; have e2 : ρ (.tmp 2) = _ := hB (.tmp 2) rfl; have e119 : ρ (.tmp 119) = .agg (msgV M1) := hD 0 119 rfl rfl; clear hB hD; refine .inl ⟨rfl, ?_⟩; exact gives_lay1 hE e2 e119 HS9.out.msg.wt HS9.out.r2 (by omega)
                  · intro ρ w' hE hB hD; have e3 : ρ (.tmp 3) = _ := hB (.tmp 3) rfl; have e126 : ρ (.tmp 126) = .agg (flawV (31, (k : Int), tag)) := hD 7 126 rfl rfl; clear hB hD; refine .inl ⟨rfl, ?_⟩; exact gives_lay2 hE e3 e126 HS9.out.r3 (by omega)
                · intro a' wz hE1 hd' hs' hB' hP' hN'; obtain ⟨_, b2⟩ := hN' 8 rfl; obtain ⟨_, b3⟩ := hN' 9 rfl; change Rl.Post.p Rl.Post.laid1 _ _ at b2; change Rl.Post.p Rl.Post.laid2 _ _ at b3; have e2 := hB' (.tmp 2) rfl; have e3 := hB' (.tmp 3) rfl; clear hB' hP' hN' hs'; go_wp2; exact read_ret HS9.out hE1 b2 b3 e2 e3 hd'
             | some M2 =>
              have e : M1 = M2 := HM1.out.symm; subst e; go_wp2_with fail; refine wp_region_rsteps (Turn (w.heap.size + 1 + 1) (.cells (msgV M1) 23)) (fun _ => by kernel_rfl) [.is (.agg #[.int .i64 st, .int .i64 sn, .bool sm]), .is (.slice (some ⟨b, 0, none⟩) L cap), .is (.int .i64 k), .is (.pointer (some ⟨b, k * 2, none⟩)), .is (.pointer (some ⟨b, k * 2 + 1, none⟩)), .is (.string ⟨val.toArray⟩), .msg (.bool true), .is (.bool false), .is (.bool false)] (by kernel_rfl) ?_ ?_
              · refine And.intro ?_ (And.intro ?_ (And.intro ?_ (And.intro ?_ (And.intro ?_ (And.intro ?_ (And.intro ?_ (And.intro ?_ (And.intro ?_ (True.intro)))))))))
                · intro ρ w' hE hB hD; obtain ⟨hq, _⟩ := blk_facts ((hE.block _ (Array.getElem?_eq_some_iff.1 HB9.out).1 (by have := HSBL.out; omega)).trans HB9.out); have q0 := hq 0; have q1 := hq 1; have q2 := hq 2; simp at q0 q1 q2; clear hq; have e7 : ρ (.tmp 7) = _ := hB (.tmp 7) rfl; clear hB hD; refine .inl ⟨rfl, ?_⟩; unfold Gives; go_simp; first | done | exact yr1 | exact yr0 | exact yr2
                · intro ρ w' hE hB hD; have e0 : ρ (.tmp 0) = _ := hB (.tmp 0) rfl; clear hB hD; refine .inl ⟨rfl, ?_⟩; unfold Gives; go_simp; first | done | exact yr1 | exact yr0 | exact yr2
                · intro ρ w' hE hB hD; have e6 : ρ (.tmp 6) = _ := hB (.tmp 6) rfl; clear hB hD; refine .inl ⟨rfl, ?_⟩; unfold Gives; go_simp; first | done | exact yr1 | exact yr0 | exact yr2
                · intro ρ w' hE hB hD; have h1 := HKL.out.1; have h2 := HKL.out.2; have e112 : ρ (.tmp 112) = .slice (some ⟨b, 0, none⟩) L cap := hD 1 112 rfl rfl; have e113 : ρ (.tmp 113) = .int .i64 k := hD 2 113 rfl rfl; clear hB hD; refine .inl ⟨rfl, ?_⟩; unfold Gives; go_simp; first | done | exact yr1 | exact yr0 | exact yr2
                · intro ρ w' hE hB hD; have e114 : ρ (.tmp 114) = .pointer (some ⟨b, k * 2, none⟩) := hD 3 114 rfl rfl; clear hB hD; refine .inl ⟨rfl, ?_⟩; unfold Gives; go_simp; first | done | exact yr1 | exact yr0 | exact yr2
                · intro ρ w' hE hB hD; have q1 := hE.cell HTV.out (by have := HTB.out; omega); have e115 : ρ (.tmp 115) = .pointer (some ⟨b, k * 2 + 1, none⟩) := hD 4 115 rfl rfl; clear hB hD; refine .inl ⟨rfl, ?_⟩; unfold Gives; go_simp; first | done | exact yr1 | exact yr0 | exact yr2
                · intro ρ w' hE hB hD; have hB0 := fun f => hB (.func f) rfl
                  have e4 : ρ (.tmp 4) = _ := hB (.tmp 4) rfl; have e111 : ρ (.tmp 111) = .agg #[.int .i64 st, .int .i64 sn, .bool sm] := hD 0 111 rfl rfl; have e116 : ρ (.tmp 116) = .string ⟨val.toArray⟩ := hD 5 116 rfl rfl; clear hB hD; refine .inl ⟨rfl, ?_⟩; refine gives_call ent_fix_slot_fits (hB0 _) ?_; simp only [List.map_cons, List.map_nil, e4, e111, e116]; refine (HFITS.out w' (hE.ext HS9.out.ext (by omega)) ((hE.one HS9.out.msg.lt).imp (fun h => ⟨HS9.out.msg.wt, h.trans HS9.out.msg.blk⟩) (fun h => ⟨HWTM1.out, h⟩))).mono ?_; rintro e w'' ⟨rfl, hm2, hg⟩; exact ⟨_, rfl, TurnR.ofGrown hg hm2.blk, rfl, hm2⟩
                · intro ρ w' hE hB hD; have r117 := hD 6 117 rfl rfl; change Rl.Post.p (.msg (.bool true)) _ _ at r117; clear hB hD; refine .inl ⟨rfl, ?_⟩; unfold Gives; obtain ⟨e117, _⟩ := r117; go_simp; exact ⟨Rl.refl _ _, rfl⟩
                · intro ρ w' hE hB hD; have e118 : ρ (.tmp 118) = .bool false := hD 7 118 rfl rfl; clear hB hD; refine .inl ⟨rfl, ?_⟩; unfold Gives; go_simp; first | done | exact yr1 | exact yr0 | exact yr2
              · intro a' w18 hE18 hd' hs' hB' hP' hN'; obtain ⟨x117, hx117⟩ : ∃ x, a'.eval (.tmp 117) = x := ⟨_, rfl⟩
                have r117 := hP' 6 117 rfl; change Rl.Post.p (.msg (.bool true)) _ _ at r117; rw [hx117] at r117; have ha' := act_of_posts [(111, .agg #[.int .i64 st, .int .i64 sn, .bool sm]), (112, .slice (some ⟨b, 0, none⟩) L cap), (113, .int .i64 k), (114, .pointer (some ⟨b, k * 2, none⟩)), (115, .pointer (some ⟨b, k * 2 + 1, none⟩)), (116, .string ⟨val.toArray⟩), (117, x117), (118, .bool false), (110, .bool false)] hd' hs' hB' (by simp) (by kernel_rfl) (by
                 intro p hp; simp only [List.mem_cons, List.mem_nil_iff, or_false] at hp
                 rcases hp with rfl | rfl | rfl | rfl | rfl | rfl | rfl | rfl | rfl
                 · exact hP' 0 111 rfl
                 · exact hP' 1 112 rfl
                 · exact hP' 2 113 rfl
                 · exact hP' 3 114 rfl
                 · exact hP' 4 115 rfl
                 · exact hP' 5 116 rfl
                 · exact hx117
                 · exact hP' 7 118 rfl
                 · exact hP' 8 110 rfl)
                clear hB' hP' hs' hd'; simp only [List.foldl_cons, List.foldl_nil, List.setIfInBounds_toArray, List.set_cons_succ, List.set_cons_zero] at ha'; subst ha'; clear hx117; have HS18 := Lib.hid (HS9.out.turned hE18 r117.2); have HO18 := Lib.hid (HO9.out.turned hE18 (by omega)); obtain ⟨rfl, _⟩ := r117; clear hE18; go_wp2; go_roundw
                case rel => exact ⟨k + 1, M1, by omega, by omega, by go_num, HS18.out, HO18.out, by
                 rw [HREST.out]; rw [← HRF.out, HDR.out]; exact (rf_go HFS.out (by rw [HPL.out]; omega) HFR.out).symm⟩
                case measure => simp [intOf]; omega
        · obtain rfl : L = k := by omega
          have hx : X = (M, (0, 0, 0)) := by
           rw [← HRF.out, List.drop_eq_nil_of_le (by rw [HLEN.out]; exact Nat.le_refl _)]; rfl
          have HR2 : RowKit.Hid (R = (match lacks all l with | some s => (M, (50, (l.length : Int), s.tag)) | none => fitAll M l)) := Lib.hid (by
           rw [HRO.out, hx]; rfl)
          have HVG : RowKit.Hid (∀ (tag : Int) (w1 : World), Ext w w1 → Calls Tryz.prog 90 #[.slice (some ⟨b, 0, none⟩) L cap, .int .i64 tag] w1 fun e w' => e = .returned (.tuple #[.int .i64 (placeOf l tag), .string ⟨(textOf l tag).toArray⟩]) ∧ Ext w1 w') := Lib.hid (fun tag w1 h1 => value_calls _ l tag w1 (by rw [HLEN.out]; exact HL.out) (HF.out.ext h1)); clear hx; go_wp2_with fail; go_loopw [129] (fun j wr => ∃ n : Nat, n ≤ N ∧ j = .int .i64 n ∧ RdS w wr M ∧ OwnSl wr (w.heap.size + 1 + 1 + 1) (.slice SA N scap) all ∧ ∀ i (h : i < all.length), i < n → ((all[i]).must && decide (placeOf l (all[i]).tag < 0)) = false) (fun j _ => N - (intOf j).toNat)
          case atStart => exact ⟨0, by omega, rfl, HRD.out, HOW.out, fun i h hi => by omega⟩
          case round =>
           obtain ⟨n, hn, rfl, hrd2, hown2, hno⟩ := hrel; have HRD2 := Lib.hid hrd2; have HOW2 := Lib.hid hown2; have HNO := Lib.hid hno; clear HRD HOW HRF hrd2 hown2 hno; by_cases hnt : n < N
           · have hnl : n < all.length := by rw [HNN.out]; exact hnt
             obtain ⟨b2, rfl, hsa⟩ := HOW2.out.reads.at (by rintro rfl; simp at hnl); obtain ⟨q0, q1, q2⟩ := hsa n hnl; obtain ⟨⟨st, sn, sm⟩, hsl⟩ : ∃ s, all[n] = s := ⟨_, rfl⟩
             rw [hsl] at q0 q1 q2; dsimp only at q0 q1 q2
             skip
             have hni : (n : Int) < (N : Int) := by omega
             have hNb : N ≤ 127 := HAN.out; obtain ⟨pl, hpl⟩ : ∃ q, placeOf l st = q := ⟨_, rfl⟩
             obtain ⟨tx, htx⟩ : ∃ q, textOf l st = q := ⟨_, rfl⟩
             have HV2 := Lib.hid (HVG.out st); rw [hpl, htx] at HV2; have HPL := Lib.hid hpl; have HHIT : RowKit.Hid (sm = true → pl < 0 → R = (M, (50, (L : Int), st))) := Lib.hid (fun h1 h2 => by
              have hf : lacks all l = some ⟨st, sn, sm⟩ := by
               unfold lacks; rw [List.find?_eq_some_iff_getElem]; exact ⟨by simp only [h1, hpl, h2]; rfl, n, hnl, hsl, fun i hi => by rw [HNO.out i (by omega) hi]; rfl⟩
              rw [HR2.out, hf]; dsimp only; rw [HLEN.out])
             have HNEXT : RowKit.Hid (¬ (sm = true ∧ pl < 0) → ∀ i (h : i < all.length), i < n + 1 → ((all[i]).must && decide (placeOf l (all[i]).tag < 0)) = false) := Lib.hid (fun h1 i h2 h3 => by
              by_cases hi : i = n
              · subst hi; rw [hsl]; dsimp only; rw [hpl]; cases sm with
                | false => rfl
                | true => simp; by_cases h5 : pl < 0
                          · exact absurd ⟨rfl, h5⟩ h1
                          · omega
              · exact HNO.out i h2 (by omega))
             clear hsa hpl htx hsl; go_wp2_with fail; refine (HV2.out _ (HRD2.out.more ((Ext.refl _).alloc _)).ext).mono ?_; rintro e w8 ⟨rfl, hE8⟩; have HS9 := Lib.hid (HRD2.out.more (((Ext.refl _).alloc _).trans hE8)); have HO9 := Lib.hid (HOW2.out.ext (((Ext.refl _).alloc _).trans hE8)); have hb9 := hE8.heap (heap_alloc_new wr _); obtain ⟨hq, _⟩ := blk_facts hb9; have c0 := hq 0; have c2 := hq 2; simp at c0 c2; have HTAG := Lib.hid c0; have HTB : RowKit.Hid (w.heap.size + 1 + 1 < wr.heap.size) := Lib.hid HRD2.out.msg.lt; clear hE8 hb9 hq q0 q1 q2; cases sm with
             | false =>
              go_wp2; go_roundw
              case rel => exact ⟨n + 1, by omega, by go_num, HS9.out, HO9.out, HNEXT.out (by simp)⟩
              case measure => simp [intOf]; omega
             | true =>
              by_cases hp0 : pl < 0
              · have e := HHIT.out rfl hp0; subst e; go_wp2_with fail; refine wp_region_rsteps (Rets w.heap.size (w.heap.size + 1) (.cells (msgV M) 23) (.cells (flawV (50, (L : Int), st)) 81)) (fun _ => by kernel_rfl) [.is (.agg (msgV M)), .is (.slice (some ⟨b, 0, none⟩) L cap), .is (.int .i64 (L : Int)), .is (.pointer (some ⟨wr.heap.size, 0, none⟩)), .is (.int .i64 st), .is (.agg (flawV (50, (L : Int), st))), .laid1, .laid2] (by kernel_rfl) ?_ ?_
                · refine And.intro ?_ (And.intro ?_ (And.intro ?_ (And.intro ?_ (And.intro ?_ (And.intro ?_ (And.intro ?_ (And.intro ?_ (True.intro))))))))
                  · intro ρ w' hE hB hD; have hrow := hE.msgRow HS9.out.msg (by omega) (by omega); have hsz := msgV_size HS9.out.msg.wt; have e4 : ρ (.tmp 4) = _ := hB (.tmp 4) rfl; clear hB hD; refine .inl ⟨rfl, ?_⟩; unfold Gives; go_simp; first | done | exact yr1 | exact yr0 | exact yr2
                  · intro ρ w' hE hB hD; have e0 : ρ (.tmp 0) = _ := hB (.tmp 0) rfl; clear hB hD; refine .inl ⟨rfl, ?_⟩; unfold Gives; go_simp; first | done | exact yr1 | exact yr0 | exact yr2
                  · intro ρ w' hE hB hD; have e147 : ρ (.tmp 147) = .slice (some ⟨b, 0, none⟩) L cap := hD 1 147 rfl rfl; clear hB hD; refine .inl ⟨rfl, ?_⟩; unfold Gives; go_simp; first | done | exact yr1 | exact yr0 | exact yr2
                  · intro ρ w' hE hB hD; have e12 : ρ (.tmp 12) = _ := hB (.tmp 12) rfl; clear hB hD; refine .inl ⟨rfl, ?_⟩; unfold Gives; go_simp; first | done | exact yr1 | exact yr0 | exact yr2
                  · intro ρ w' hE hB hD; have q0 := hE.cell HTAG.out (by have := HTB.out; omega) (by have := HTB.out; omega); have e149 : ρ (.tmp 149) = .pointer (some ⟨wr.heap.size, 0, none⟩) := hD 3 149 rfl rfl; clear hB hD; refine .inl ⟨rfl, ?_⟩; unfold Gives; go_simp; first | done | exact yr1 | exact yr0 | exact yr2
                  · intro ρ w' hE hB hD; have ec := ctK hB
                    have e148 : ρ (.tmp 148) = .int .i64 (L : Int) := hD 2 148 rfl rfl; have e150 : ρ (.tmp 150) = .int .i64 st := hD 4 150 rfl rfl; clear hB hD; refine .inl ⟨rfl, ?_⟩; unfold Gives; go_simp; first | done | exact yr1 | exact yr0 | exact yr2
                  · intro ρ w' hE hB hD; have e2 : ρ (.tmp 2) = _ := hB (.tmp 2) rfl; have e146 : ρ (.tmp 146) = .agg (msgV M) := hD 0 146 rfl rfl; clear hB hD; refine .inl ⟨rfl, ?_⟩; exact gives_lay1 hE e2 e146 HS9.out.msg.wt HS9.out.r2 (by omega)
                  · intro ρ w' hE hB hD; have e3 : ρ (.tmp 3) = _ := hB (.tmp 3) rfl; have e151 : ρ (.tmp 151) = .agg (flawV (50, (L : Int), st)) := hD 5 151 rfl rfl; clear hB hD; refine .inl ⟨rfl, ?_⟩; exact gives_lay2 hE e3 e151 HS9.out.r3 (by omega)
                · intro a' wz hE1 hd' hs' hB' hP' hN'; obtain ⟨_, b2⟩ := hN' 6 rfl; obtain ⟨_, b3⟩ := hN' 7 rfl; change Rl.Post.p Rl.Post.laid1 _ _ at b2; change Rl.Post.p Rl.Post.laid2 _ _ at b3; have e2 := hB' (.tmp 2) rfl; have e3 := hB' (.tmp 3) rfl; clear hB' hP' hN' hs'; go_wp2; exact read_ret HS9.out hE1 b2 b3 e2 e3 hd'
              · have hp1 : 0 ≤ pl := by omega
                have hnx := HNEXT.out (by rintro ⟨_, h⟩; omega); have HNX := Lib.hid hnx; clear hnx; go_wp2; go_roundw
                case rel => exact ⟨n + 1, by omega, by go_num, HS9.out, HO9.out, HNX.out⟩
                case measure => simp [intOf]; omega
           · obtain rfl : N = n := by omega
             obtain ⟨⟨M9, f1, f2, f3⟩, hfa⟩ : ∃ x, fitAll M l = x := ⟨_, rfl⟩
             have e : R = (M9, (f1, f2, f3)) := by
              have hf : lacks all l = none := by
               unfold lacks; rw [List.find?_eq_none]; intro s hs; obtain ⟨i, hi, rfl⟩ := List.getElem_of_mem hs; rw [HNO.out i hi (by rw [← HNN.out]; exact hi)]; simp
              rw [HR2.out, hf]; exact hfa
             subst e; have HFIT := Lib.hid (fit_calls (.slice (some ⟨b, 0, none⟩) L cap) l (w.heap.size + 1 + 1) M w wr HRD2.out.ext (by omega) HF.out HRD2.out.msg (by rw [HLEN.out]; exact HL.out)); rw [hfa] at HFIT; clear hfa; go_wp2_with fail; refine HFIT.out.mono ?_; rintro e w28 ⟨rfl, hm, hg, hx⟩; have HS28 := Lib.hid (HRD2.out.turned (TurnR.ofGrown hg hm.blk) hm); unfold flawV; dsimp only at HS28 ⊢; have HS9 := Lib.hid (HS28.out.more ((Ext.refl _).alloc (.cells #[.int .i64 f1, .int .i64 f2, .int .i64 f3] 81))); have hb9 := heap_alloc_new w28 (.cells #[.int .i64 f1, .int .i64 f2, .int .i64 f3] 81); obtain ⟨hq, _⟩ := blk_facts hb9; have c0 := hq 0; have c1 := hq 1; have c2 := hq 2; simp only [List.getElem?_toArray, List.getElem?_cons_zero, List.getElem?_cons_succ] at c0 c1 c2; have Q := Lib.hid (And.intro c0 (And.intro c1 c2)); have QB : RowKit.Hid (w.heap.size + 1 + 1 < w28.heap.size) := Lib.hid HS28.out.msg.lt; clear hm hg hx hb9 hq c0 c1 c2; go_wp2_with fail; refine wp_region_rsteps (Rets w.heap.size (w.heap.size + 1) (.cells (msgV M9) 23) (.cells (flawV (f1, f2, f3)) 81)) (fun _ => by kernel_rfl) [.is (.agg (msgV M9)), .is (.agg (flawV (f1, f2, f3))), .laid1, .laid2] (by kernel_rfl) ?_ ?_
             · refine And.intro ?_ (And.intro ?_ (And.intro ?_ (And.intro ?_ (True.intro))))
               · intro ρ w' hE hB hD; have hrow := hE.msgRow HS9.out.msg (by omega) (by omega); have hsz := msgV_size HS9.out.msg.wt; have e4 : ρ (.tmp 4) = _ := hB (.tmp 4) rfl; clear hB hD; refine .inl ⟨rfl, ?_⟩; unfold Gives; go_simp; first | done | exact yr1 | exact yr0 | exact yr2
               · intro ρ w' hE hB hD; have q0 := hE.cell Q.out.1 (by have := QB.out; omega) (by have := QB.out; omega); have q1 := hE.cell Q.out.2.1 (by have := QB.out; omega) (by have := QB.out; omega); have q2 := hE.cell Q.out.2.2 (by have := QB.out; omega) (by have := QB.out; omega); have e15 : ρ (.tmp 15) = _ := hB (.tmp 15) rfl; clear hB hD; refine .inl ⟨rfl, ?_⟩; unfold Gives; go_simp; first | done | exact yr1 | exact yr0 | exact yr2
               · intro ρ w' hE hB hD; have e2 : ρ (.tmp 2) = _ := hB (.tmp 2) rfl; have e155 : ρ (.tmp 155) = .agg (msgV M9) := hD 0 155 rfl rfl; clear hB hD; refine .inl ⟨rfl, ?_⟩; exact gives_lay1 hE e2 e155 HS9.out.msg.wt HS9.out.r2 (by omega)
               · intro ρ w' hE hB hD; have e3 : ρ (.tmp 3) = _ := hB (.tmp 3) rfl; have e156 : ρ (.tmp 156) = .agg (flawV (f1, f2, f3)) := hD 1 156 rfl rfl; clear hB hD; refine .inl ⟨rfl, ?_⟩; exact gives_lay2 hE e3 e156 HS9.out.r3 (by omega)
             · intro a' wz hE1 hd' hs' hB' hP' hN'; obtain ⟨_, b2⟩ := hN' 2 rfl; obtain ⟨_, b3⟩ := hN' 3 rfl; change Rl.Post.p Rl.Post.laid1 _ _ at b2; change Rl.Post.p Rl.Post.laid2 _ _ at b3; have e2 := hB' (.tmp 2) rfl; have e3 := hB' (.tmp 3) rfl; clear hB' hP' hN' hs'; go_wp2; exact read_ret HS9.out hE1 b2 b3 e2 e3 hd'
  · obtain rfl : R = (noMsg, (50, 0, 35)) := by rw [← HR.out, ← HLL.out]; exact readAll_bad h35
    have h35a : (t0 != 35) = true := by simpa using h35
    have hrow := HS0.out.msg.row.1; have hs := msgV_size HS0.out.msg.wt; have HX := Lib.hid (HS0.out.both (f := (50, 0, 35))); have hst := run_storeMsg HS0.out; obtain ⟨⟨f0, f1, f2⟩, hz⟩ := HS0.out.flawFacts; have z0 := hz 0; have z1 := hz 1; have z2 := hz 2; clear hz; go_enter Tryz.func42, Tryz.ntmps42
    go_wp2; exact read_ret HS0.out HX.out.1 HX.out.2.1 HX.out.2.2 (by rfl) (by rfl) (by rfl)
end
section
open Go Go.RowKit
set_option maxHeartbeats 6400000
theorem buildMsg0 (w : World) : (Instr.build 23 #[]).run Tryz.prog w = .ok (.agg (msgV noMsg)) w := run_build w 23 #[] _ (by kernel_rfl)
theorem wp_build0 {o : Oper} {a : Act} {w : World} {K : Act → World → Prop} {Q : Exit → Act → World → Prop} (ho : o.op = .build 23 #[]) (h : K (a.put o.dst (.agg (msgV noMsg))) w) : o.wp Tryz.prog a w K Q := by
 refine wp_build 23 #[] ho (by kernel_rfl) ?_; have e : (Tryz.prog.built 23 ((#[] : Array (Nat × Operand)).map fun (i, x) => (i, a.eval x)).toList).getD #[] = msgV noMsg := by kernel_rfl
 rw [e]; exact h
attribute [local go_sem ↓] loadVarMsg buildMsg0
attribute [local go_sem] ba_get loadRowMsg rowOf_new rowOf_old rowOf_drew
@[irreducible] def Stop (p : Prop) : Prop := p
theorem stop_region {P : Program} {id : Nat} {ops : Array Oper} {Q : Exit → Act → World → Prop} {a : Act} {w : World} (h : Stop ((Code.region id ops true).wp P Q a w)) : (Code.region id ops true).wp P Q a w := by unfold Stop at h; exact h
theorem stop_go {p : Prop} (h : p) : Stop p := by unfold Stop; exact h
theorem fieldsTell_count {s : List UInt8} {stop : Nat} : ∀ (fuel k : Nat) (acc l : List Fld), fieldsTell s stop fuel k acc = .inl l → l.length ≤ acc.length + fuel
 | 0, k, acc, l, h => by rw [← Sum.inl.inj h]; exact Nat.le_refl _
 | fuel + 1, k, acc, l, h => by
  unfold fieldsTell at h; split at h
  · rw [← Sum.inl.inj h]; omega
  · split at h
    · cases h
    · have := fieldsTell_count fuel _ _ l h; simp only [List.length_append, List.length_cons, List.length_nil] at this; omega
theorem split_count {s : List UInt8} {l : List Fld} (h : split s = .inl l) : l.length ≤ 1025 := by
 have h0 := (split_len h).1; unfold split at h; split at h
 · cases h
 · split at h
   · cases h
   · split at h
     · cases h
     · split at h
       · cases h
       · have := fieldsTell_count _ _ _ _ h; simp only [List.length_nil] at this; omega
theorem run_storeIn {wk : World} {g : Nat} {m : Msg} {old : Array Value} (hm : WT m) (hg : wk.heap[g]? = some (.cells old 23)) (ho : old.size = 42) : (storeCells ⟨g, 0, none⟩ (msgV m).toList).run Tryz.prog wk = .ok () (wk.setRow g (msgV m)) := by
 have hs := msgV_size hm; have h1 := oneCells hm; have := run_storeCells_at Tryz.prog g 0 23 (msgV m).toList 0 old wk hg (by simp only [Array.length_toList]; omega) (fun v hv => (Array.all_eq_true_iff_forall_mem.1 h1) v (by simpa using hv)); rw [this]; congr 2
 have h2 : old.toList.drop (0 + 0 + (msgV m).toList.length) = [] := List.drop_eq_nil_of_le (by simp only [Array.length_toList]; omega); rw [h2]; simp
theorem Ext.setRow' {W w : World} (h : Ext W w) {g : Nat} (hg : W.heap.size ≤ g) (cs : Array Value) : Ext W (w.setRow g cs) :=
 ⟨h.os, h.tape, h.output, by rw [setRow_size]; exact h.size, fun k hk => (heap_setRow_ne (by omega)).trans (h.block k hk)⟩
def decodeSays (W w' : World) (e : Ending) : Msg ⊕ (Int × Int) → Prop
 | .inr f => ∃ v, e = .returned (.tuple #[.agg (msgV noMsg), .iface 84 v]) ∧ FaultAt W w' v f.1 f.2
 | .inl m => e = .returned (.tuple #[.agg (msgV m), .nilIface])
theorem rowOf_blk {w : World} {g : Nat} {cs : Array Value} {t : TypeId} (h : w.heap[g]? = some (.cells cs t)) : rowOf w g = cs := by unfold rowOf; rw [h]
theorem results_row_tmp {P : Program} {fn : Func} {p q : Tmp} {ty : TypeId} (h : fn.results = #[.cell p ty, .tmp q]) (tmps : Array Value) (w : World) {g : Nat} {t : TypeId} {cs : Array Value} {fr : Nat × Nat} {d : TypeDesc} {v : Value}
 (hg : w.heap[g]? = some (.cells cs t fr)) (hu : P.underlying ty = some d) (hd : isRows d = true) (hi : (P.info? ty).map (·.size) = some cs.size)
 (hp : tmps[p]?.getD undef = .pointer (some ⟨g, 0, none⟩)) (hq : tmps[q]?.getD undef = v) : (results fn tmps).run P w = .ok (.tuple #[.agg cs, v]) w := by
 have k1 := run_loadVar_row w g t ty cs fr d hg hu (by cases d <;> first | rfl | (exact absurd hd (by simp [isRows]))) hi; simp [results, h, hp, hq, asAddr, k1]
def Rl.Post.set {g : Nat} {c : Obj} : (Turn g c).Post := ⟨fun _ w => w.heap[g]? = some c ∧ g < w.heap.size, fun v w w' ⟨h2, h3⟩ hr => ⟨(hr.one h3).elim (fun h => h.trans h2) id, Nat.lt_of_lt_of_le h3 hr.size⟩⟩
def NewFault (W w : World) (g : Nat) (v : Value) (a e : Int) : Prop := ∃ b, v = .pointer (some ⟨b, 0, none⟩) ∧ W.heap.size ≤ b ∧ b ≠ g ∧ w.heap[b]? = some (.cells #[.int .i64 a, .int .i64 e] 86)
theorem NewFault.turn {W w w' : World} {g : Nat} {c : Obj} {v : Value} {a e : Int} (h : NewFault W w g v a e) (hr : TurnR g c w w') : NewFault W w' g v a e := by
 obtain ⟨b, e1, h1, h2, h3⟩ := h; exact ⟨b, e1, h1, h2, (hr.block b (Array.getElem?_eq_some_iff.1 h3).1 h2).trans h3⟩
theorem NewFault.at {W w : World} {g : Nat} {v : Value} {a e : Int} (h : NewFault W w g v a e) : FaultAt W w v a e := by
 obtain ⟨b, e1, h1, h2, h3⟩ := h; exact ⟨b, e1, h1, h3⟩
def Rl.Post.ptr {g : Nat} {c : Obj} (W : World) (a e : Int) : (Turn g c).Post := ⟨fun v w => NewFault W w g v a e, fun v w w' h hr => h.turn hr⟩
def Rl.Post.fault {g : Nat} {c : Obj} (W : World) (a e : Int) : (Turn g c).Post := ⟨fun v w => ∃ x, v = .iface 84 x ∧ NewFault W w g x a e, fun v w w' ⟨x, e1, h⟩ hr => ⟨x, e1, h.turn hr⟩⟩
theorem gives_build0 {dst : Option Tmp} {tyo : TypeId} {pos : String} {after : Array Edge} {gd : Option (Nat × Bool)} {ρ : Operand → Value} {w : World} {R : Value → World → Prop} (h : R (.agg (msgV noMsg)) w) :
 Gives Tryz.prog { dst, op := .build 23 #[], type := tyo, pos, after, guard := gd } ρ w R := by
 unfold Gives; have e : (execOp ρ { dst, op := .build 23 #[], type := tyo, pos, after, guard := gd }).run Tryz.prog w = .ok (.value (.agg (msgV noMsg))) w := by kernel_rfl
 rw [e]; exact h
theorem gives_turn {dst : Option Tmp} {x y : Operand} {tyo : TypeId} {pos : String} {after : Array Edge} {gd : Option (Nat × Bool)} {ρ : Operand → Value} {g : Nat} {M : Msg} {old : Array Value} {w0 w : World} (hr : TurnR g (.cells (msgV M) 23) w0 w)
 (hx : ρ x = .pointer (some ⟨g, 0, none⟩)) (hy : ρ y = .agg (msgV M)) (hM : WT M) (hg : w0.heap[g]? = some (.cells old 23)) (ho : old.size = 42 := by rfl) :
 Gives Tryz.prog { dst, op := .store 23 x y, type := tyo, pos, after, guard := gd } ρ w (fun v w' => TurnR g (.cells (msgV M) 23) w w' ∧ w'.heap[g]? = some (.cells (msgV M) 23) ∧ g < w'.heap.size) := by
 have hlt := (Array.getElem?_eq_some_iff.1 hg).1; have hs := msgV_size hM; have key : ∀ old : Array Value, old.size = 42 → w.heap[g]? = some (.cells old 23) → Gives Tryz.prog { dst, op := .store 23 x y, type := tyo, pos, after, guard := gd } ρ w (fun v w' => TurnR g (.cells (msgV M) 23) w w' ∧ w'.heap[g]? = some (.cells (msgV M) 23) ∧ g < w'.heap.size) := by
  intro old ho hb; refine gives_store g (msgV M) old 23 hx hy hb (by rw [hs]; kernel_rfl) (by rw [ho, hs]) (oneCells hM) ⟨⟨rfl, rfl, rfl, by rw [setRow_size]; exact Nat.le_refl _, fun k h1 h2 => heap_setRow_ne h2, fun _ => Or.inr (heap_setRow hb)⟩, heap_setRow hb, ?_⟩; rw [setRow_size]; exact Nat.lt_of_lt_of_le hlt hr.size
 rcases hr.one hlt with h | h
 · exact key _ ho (h.trans hg)
 · exact key _ hs h
theorem decode_ret {w1 : World} {a' : Act} {g : Nat} {m : Msg} {v : Value} {R : Ending → World → Prop} (hm : WT m) (h2 : w1.heap[g]? = some (.cells (msgV m) 23)) (e2 : a'.eval (.tmp 2) = .pointer (some ⟨g, 0, none⟩)) (e3 : a'.eval (.tmp 3) = v) (hd : a'.defers = [])
 (hR : R (.returned (.tuple #[.agg (msgV m), v])) w1) : bodyPost Tryz.prog Tryz.f17 R .ret a' w1 := by
 obtain ⟨d, hd1, hd2⟩ := isStruct23; have hs := msgV_size hm; exact bodyPost_ret (results_row_tmp rfl a'.tmps w1 h2 hd1 hd2 (by rw [hs]; kernel_rfl) (by simpa [Act.eval] using e2) (by simpa [Act.eval] using e3)) hd hR
theorem decode_calls (s : List UInt8) (A : Option Addr) (cap : Nat) (w : World) (hE : Env w) (hs : s.length ≤ 140737488355328) (hcap : s.length ≤ cap) (hcap2 : cap ≤ 9223372036854775807) (hb : Reads w A s) :
 Calls Tryz.prog 17 #[.slice A s.length cap] w fun e w' => decodeSays w w' e (decode s) ∧ Ext w w' := by
 obtain ⟨R, hR⟩ : ∃ R, decode s = R := ⟨_, rfl⟩
 rw [hR]; unfold decode at hR; have hX1 : Ext w (w.alloc (.cells (msgV noMsg) 23)) := (Ext.refl w).alloc _; have hn1 := heap_alloc_new w (.cells (msgV noMsg) 23); have hsplit := split_calls s A cap (w.alloc (.cells (msgV noMsg) 23)) (hE.ext hX1) hs hcap hcap2 (hb.ext hX1); have hsz1 : (w.alloc (.cells (msgV noMsg) 23)).heap.size = w.heap.size + 1 := by simp
 have hw5 : ∀ w5 : World, Ext w5 ((w5.alloc (.cells (msgV noMsg) 23)).alloc (.cells #[.int .i64 0, .int .i64 0, .int .i64 0] 81)) ∧ ((w5.alloc (.cells (msgV noMsg) 23)).alloc (.cells #[.int .i64 0, .int .i64 0, .int .i64 0] 81)).heap[w5.heap.size]? = some (.cells (msgV noMsg) 23) ∧
     ((w5.alloc (.cells (msgV noMsg) 23)).alloc (.cells #[.int .i64 0, .int .i64 0, .int .i64 0] 81)).heap[w5.heap.size + 1]? = some (.cells #[.int .i64 0, .int .i64 0, .int .i64 0] 81) := fun w5 =>
  ⟨((Ext.refl _).alloc _).alloc _, ((Ext.refl _).alloc _).heap (heap_alloc_new w5 _), by
   have := heap_alloc_new (w5.alloc (.cells (msgV noMsg) 23)) (.cells #[.int .i64 0, .int .i64 0, .int .i64 0] 81); simpa using this⟩
 have hsz0 : (msgV noMsg).size = 42 := by decide
 have hzero : msgV noMsg = #[.int .i64 0, .string ⟨#[]⟩, .string ⟨#[]⟩, .int .i64 0, .bool false, .int .i64 0, .int .i64 0, .int .i64 0, .bool false, .string ⟨#[]⟩, .int .i64 0, .int .i64 0, .int .i64 0, .bool false, .int .i64 0, .int .i64 0, .int .i64 0, .int .i64 0, .string ⟨#[]⟩, .string ⟨#[]⟩, .string ⟨#[]⟩, .string ⟨#[]⟩, .string ⟨#[]⟩, .int .i64 0, .int .i64 0, .int .i64 0, .int .i64 0, .int .i64 0, .int .i64 0, .int .i64 0, .int .i64 0, .int .i64 0, .int .i64 0, .int .i64 0, .int .i64 0, .int .i64 0, .int .i64 0, .int .i64 0, .int .i64 0, .int .i64 0, .int .i64 0, .int .i64 0] := rfl; rw [hzero] at hw5; have HSZ0 := Lib.hid hsz0; have HW5 := Lib.hid hw5; have HSPLIT := Lib.hid hsplit; have HX1 := Lib.hid hX1; have HN1 := Lib.hid hn1; have HSZ1 := Lib.hid hsz1; have HE := Lib.hid hE; have HNOW : RowKit.Hid (WT noMsg) := Lib.hid (by decide); clear hX1 hn1 hb hE hsplit hsz1 hw5 hsz0 hzero; rcases hsp : split s with l | f
 · have HSP := Lib.hid hsp; rw [hsp] at HSPLIT hR; dsimp only at hR; obtain ⟨L, hL⟩ : ∃ n, s.length = n := ⟨_, rfl⟩
   rw [hL] at HSPLIT hs hcap ⊢; clear hsp hL; go_enter Tryz.func17, Tryz.ntmps17
   go_wp2_with fail; refine HSPLIT.out.mono ?_; rintro e w2 ⟨⟨v, rfl, hown⟩, hE2⟩; have HX2 := Lib.hid (HX1.out.trans hE2); have HN2 := Lib.hid (hE2.heap HN1.out); have HREAD := Lib.hid (fixRead_calls v l w2 (HE.out.ext HX2.out) hown.reads (by have := split_count HSP.out; omega) (fun f hf => by have := split_len HSP.out; have := this.2 f hf; omega)); obtain ⟨⟨M, f1, f2, f3⟩, hx⟩ : ∃ x, readAll l = x := ⟨_, rfl⟩
   rw [hx] at HREAD hR; clear hx hown hE2 HX1 HN1 HSPLIT; go_wp2_with fail; refine HREAD.out.mono ?_; rintro e w5 ⟨rfl, hE5, hwt⟩; unfold flawV; dsimp only at hwt hR ⊢; have hwt : WT M := hwt; have HX5 := Lib.hid (HX2.out.trans hE5); have HN5 := Lib.hid (hE5.heap HN2.out); have HWT := Lib.hid hwt; have hsz := msgV_size hwt; go_wp2_with fail; obtain ⟨hA1, hb6, hb6f⟩ := HW5.out w5; generalize hWW : ((w5.alloc (.cells #[.int .i64 0, .string ⟨#[]⟩, .string ⟨#[]⟩, .int .i64 0, .bool false, .int .i64 0, .int .i64 0, .int .i64 0, .bool false, .string ⟨#[]⟩, .int .i64 0, .int .i64 0, .int .i64 0, .bool false, .int .i64 0, .int .i64 0, .int .i64 0, .int .i64 0, .string ⟨#[]⟩, .string ⟨#[]⟩, .string ⟨#[]⟩, .string ⟨#[]⟩, .string ⟨#[]⟩, .int .i64 0, .int .i64 0, .int .i64 0, .int .i64 0, .int .i64 0, .int .i64 0, .int .i64 0, .int .i64 0, .int .i64 0, .int .i64 0, .int .i64 0, .int .i64 0, .int .i64 0, .int .i64 0, .int .i64 0, .int .i64 0, .int .i64 0, .int .i64 0, .int .i64 0] 23)).alloc (.cells #[.int .i64 0, .int .i64 0, .int .i64 0] 81)) = w6 at hA1 hb6 hb6f ⊢; clear hWW; rw [run_storeIn hwt hb6 rfl]; have hX6 := HX5.out.trans hA1; have hN6 := hA1.heap HN5.out; have hlt : w.heap.size < w5.heap.size := (Array.getElem?_eq_some_iff.1 HN5.out).1; have hX7 := hX6.setRow' (g := w5.heap.size) (by omega) (msgV M); have hN7 := (heap_setRow_ne (cells := msgV M) (g := w5.heap.size) (by omega)).trans hN6; have hb7 := heap_setRow (cells := msgV M) hb6
   have hb7f := (heap_setRow_ne (cells := msgV M) (g := w5.heap.size) (by omega)).trans hb6f; obtain ⟨hq, hz⟩ := blk_facts hb7f; have q0 := hq 0; have q1 := hq 1; have q2 := hq 2; have z0 := hz 0; have z1 := hz 1; have z2 := hz 2; simp only [List.getElem?_toArray, List.getElem?_cons_zero, List.getElem?_cons_succ] at q0 q1 q2; have hle : w.heap.size ≤ w5.heap.size + 1 := by omega
   have hX8 := ((hX7.setCell (p := ⟨w5.heap.size + 1, 0, none⟩) hle (.int .i64 f1)).setCell (p := ⟨w5.heap.size + 1, 1, none⟩) hle (.int .i64 f2)).setCell (p := ⟨w5.heap.size + 1, 2, none⟩) hle (.int .i64 f3); have hne : ∀ k, k ≠ w5.heap.size + 1 → ∀ (t : World), ((((t.setCell ⟨w5.heap.size + 1, 0, none⟩ (.int .i64 f1)).setCell ⟨w5.heap.size + 1, 1, none⟩ (.int .i64 f2)).setCell ⟨w5.heap.size + 1, 2, none⟩ (.int .i64 f3))).heap[k]? = t.heap[k]? := fun k hk t => by
    rw [Below.heap_setCell _ _ _ _ hk, Below.heap_setCell _ _ _ _ hk, Below.heap_setCell _ _ _ _ hk]
   have hN8 := (hne _ (by omega) _).trans hN7; have hb8 := (hne _ (by omega) _).trans hb7; have hb8f := set_blk (o := 2) (u := .int .i64 f3) (set_blk (o := 1) (u := .int .i64 f2) (set_blk (o := 0) (u := .int .i64 f1) hb7f)); obtain ⟨hr, _⟩ := blk_facts hb8f; have r0 := hr 0; have r1 := hr 1; simp at r0 r1; have hrow := rowOf_blk hb8; have HX8 := Lib.hid hX8; have HN8 := Lib.hid hN8; have HB8 := Lib.hid hb8; have HR0 := Lib.hid r0; have HR1 := Lib.hid r1; have HLT := Lib.hid hlt; clear hA1 hb6 hX6 hN6 hb6f hX7 hN7 hb7 hb7f hq hz hX8 hne hN8 hb8 hb8f hr r1 HX5 HN5 HX2 HN2 HREAD; by_cases h0 : f1 = 0
   · subst h0; have e : R = .inl M := by rw [← hR]; rfl
     subst e; clear hR; have hst2 := run_storeIn HWT.out HN8.out HSZ0.out; have HX9 := Lib.hid (Ext.setRow' HX8.out (g := w.heap.size) (Nat.le_refl _) (msgV M)); have HN9 := Lib.hid (heap_setRow (cells := msgV M) HN8.out); go_wp2; exact decode_ret HWT.out HN9.out (by rfl) (by rfl) (by rfl) ⟨rfl, HX9.out⟩
   · have h1 : (f1 != 0) = true := by simpa using h0
     have e : R = .inr (f2, f1) := by rw [← hR]; simp only [h1, if_true]
     subst e; clear hR; go_wp2_with (refine stop_region ?_); refine stop_go ?_; refine wp_region_rsteps (Turn w.heap.size (.cells (msgV noMsg) 23)) (fun _ => by kernel_rfl) [.is (.agg (msgV noMsg)), .is (.pointer (some ⟨w5.heap.size + 1, 1, none⟩)), .is (.int .i64 f2), .is (.pointer (some ⟨w5.heap.size + 1, 0, none⟩)), .is (.int .i64 f1), .is (.agg #[.int .i64 f2, .int .i64 f1]), .ptr w f2 f1, .fault w f2 f1, .set, .fault w f2 f1] (by kernel_rfl) ?_ ?_
     · refine And.intro ?_ (And.intro ?_ (And.intro ?_ (And.intro ?_ (And.intro ?_ (And.intro ?_ (And.intro ?_ (And.intro ?_ (And.intro ?_ (And.intro ?_ (True.intro))))))))))
       · intro ρ w' hE hB hD; clear hB hD; refine .inl ⟨rfl, ?_⟩; change Gives _ _ _ _ _; exact gives_build0 ⟨Rl.refl _ _, rfl⟩
       · intro ρ w' hE hB hD; have e7 : ρ (.tmp 7) = _ := hB (.tmp 7) rfl; clear hB hD; refine .inl ⟨rfl, ?_⟩; unfold Gives; go_simp; first | done | exact yr1 | exact yr0 | exact yr2
       · intro ρ w' hE hB hD; have q := hE.cell HR1.out (by have := HLT.out; omega); have e26 : ρ (.tmp 26) = .pointer (some ⟨w5.heap.size + 1, 1, none⟩) := hD 1 26 rfl rfl; clear hB hD; refine .inl ⟨rfl, ?_⟩; unfold Gives; go_simp; first | done | exact yr1 | exact yr0 | exact yr2
       · intro ρ w' hE hB hD; have e7 : ρ (.tmp 7) = _ := hB (.tmp 7) rfl; clear hB hD; refine .inl ⟨rfl, ?_⟩; unfold Gives; go_simp; first | done | exact yr1 | exact yr0 | exact yr2
       · intro ρ w' hE hB hD; have q := hE.cell HR0.out (by have := HLT.out; omega); have e28 : ρ (.tmp 28) = .pointer (some ⟨w5.heap.size + 1, 0, none⟩) := hD 3 28 rfl rfl; clear hB hD; refine .inl ⟨rfl, ?_⟩; unfold Gives; go_simp; first | done | exact yr1 | exact yr0 | exact yr2
       · intro ρ w' hE hB hD; have e27 : ρ (.tmp 27) = .int .i64 f2 := hD 2 27 rfl rfl; have e29 : ρ (.tmp 29) = .int .i64 f1 := hD 4 29 rfl rfl; clear hB hD; refine .inl ⟨rfl, ?_⟩; unfold Gives; go_simp; first | done | exact yr1 | exact yr0 | exact yr2
       · intro ρ w' hE hB hD; have e30 : ρ (.tmp 30) = .agg #[.int .i64 f2, .int .i64 f1] := hD 5 30 rfl rfl; clear hB hD; refine .inl ⟨rfl, ?_⟩; unfold Gives; go_simp; exact ⟨TurnR.ofExt ((Ext.refl _).alloc _), w'.heap.size, rfl, by have := (hE.ext HX8.out (Nat.le_refl _)).size; omega, by have := HLT.out; have := hE.size; have := (Array.getElem?_eq_some_iff.1 HB8.out).1; omega, heap_alloc_new _ _⟩
       · intro ρ w' hE hB hD; have r31 := hD 6 31 rfl rfl; change Rl.Post.p (.ptr w f2 f1) _ _ at r31; clear hB hD; refine .inl ⟨rfl, ?_⟩; unfold Gives; obtain ⟨b, eb, h1, h2, h3⟩ := r31; have e31 := eb; go_simp; exact ⟨Rl.refl _ _, _, rfl, b, rfl, h1, h2, h3⟩
       · intro ρ w' hE hB hD; have e2 : ρ (.tmp 2) = _ := hB (.tmp 2) rfl; have e25 : ρ (.tmp 25) = .agg (msgV noMsg) := hD 0 25 rfl rfl; clear hB hD; refine .inl ⟨rfl, ?_⟩; exact gives_turn hE e2 e25 HNOW.out HN8.out
       · intro ρ w' hE hB hD; have r32 := hD 7 32 rfl rfl; change Rl.Post.p (.fault w f2 f1) _ _ at r32; clear hB hD; refine .inl ⟨rfl, ?_⟩; unfold Gives; obtain ⟨x, ex, hx⟩ := r32; have e32 := ex; go_simp; exact ⟨Rl.refl _ _, x, rfl, hx⟩
     · intro a' wz hE1 hd' hs' hB' hP' hN'; obtain ⟨_, b2⟩ := hN' 8 rfl; change Rl.Post.p Rl.Post.set _ _ at b2; have e2 := hB' (.tmp 2) rfl; have e3 := hP' 9 3 rfl; change Rl.Post.p (Rl.Post.fault w f2 f1) _ _ at e3; obtain ⟨v3, ev, hv⟩ := e3; clear hB' hP' hN' hs'; go_wp2; exact decode_ret HNOW.out b2.1 e2 ev hd' ⟨⟨v3, rfl, hv.at⟩, hE1.ext HX8.out (Nat.le_refl _)⟩
 · have HSP := Lib.hid hsp; rw [hsp] at HSPLIT hR; dsimp only at hR; subst hR; obtain ⟨at_, er⟩ := f; obtain ⟨L, hL⟩ : ∃ n, s.length = n := ⟨_, rfl⟩
   rw [hL] at HSPLIT hs hcap ⊢; clear hsp hL HSP; go_enter Tryz.func17, Tryz.ntmps17
   go_wp2_with fail; refine HSPLIT.out.mono ?_; rintro e w2 ⟨⟨v, rfl, hv⟩, hE2⟩; have HX2 := Lib.hid (HX1.out.trans hE2); have hN2 := hE2.heap HN1.out; have HV := Lib.hid (hv.more HX1.out); have hst2 := run_storeIn HNOW.out hN2 HSZ0.out; have HX9 := Lib.hid (HX2.out.setRow' (g := w.heap.size) (Nat.le_refl _) (msgV noMsg)); have HN9 := Lib.hid (heap_setRow (cells := msgV noMsg) hN2); have hlt : w.heap.size < w2.heap.size := (Array.getElem?_eq_some_iff.1 hN2).1; have HV9 : RowKit.Hid (FaultAt w (w2.setRow w.heap.size (msgV noMsg)) v at_ er) := Lib.hid (by
    obtain ⟨g, e, h1, h2⟩ := hv.is; refine ⟨g, e, ?_, ?_⟩
    · have := HX1.out.size; omega
    · rw [heap_setRow_ne ?_]
      · exact h2
      · have := HSZ1.out; omega)
   clear hE2 hN2 hv HX1 HN1 HSPLIT; go_wp2_with fail; refine wp_build0 rfl ?_; go_wp2; exact decode_ret HNOW.out HN9.out (by rfl) (by rfl) (by rfl) ⟨⟨v, rfl, HV9.out⟩, HX9.out⟩
end
end Go.Proofs.YtdmjinlgdkgoiaaGreatDoor
