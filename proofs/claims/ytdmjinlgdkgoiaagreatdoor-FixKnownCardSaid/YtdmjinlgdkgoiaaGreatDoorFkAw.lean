/- Of the layer fix: Partly. -/
import Derived.Test.YtdmjinlgdkgoiaaGreatDoorFkAu
set_option linter.unusedVariables false
set_option linter.unusedSimpArgs false
set_option maxRecDepth 100000
namespace Go.Proofs.YtdmjinlgdkgoiaaGreatDoor
section
open Go Go.RowKit
set_option maxHeartbeats 6400000
attribute [local go_sem ↓] loadVarMsg
attribute [local go_sem] ba_get loadRowMsg rowOf_new rowOf_old rowOf_drew
def firstOf (l : List Fld) : Msg := match l with
 | [] => noMsg
 | f :: _ => if f.1 == 35 then ((formAt 35).read f.2).elim noMsg fun c => noMsg.set 0 c else noMsg
def lifeP (l : List Fld) (m : Msg) : Msg := if orders (gi m 0) && textOf l 18 == [54] && textOf l 59 == [48] then m.set 25 (.I 7) else m
def partSlots (k : Int) : List Slot := slotsOf k ++ if k == 0 then headSlots else []
theorem partly_eq (l : List Fld) : partly l = lifeP l (partFrom l (firstOf l) (partSlots (gi (firstOf l) 0))) := rfl
theorem partFrom_cons {l : List Fld} {M : Msg} {st sn : Int} {sm : Bool} {r : List Slot} : partFrom l M (⟨st, sn, sm⟩ :: r) = partFrom l (if 0 ≤ placeOf l st ∧ sn ≠ 0 ∧ sn ≠ 35 then (fitsIn ⟨st, sn, sm⟩ M (textOf l st)).getD M else M) r := rfl
theorem partSlot_num {kind : Int} {s : Slot} (h : s ∈ partSlots kind) : s.tag ≠ 98 → s.tag ≠ 18 → s.tag ≠ 530 → s.num ∈ numbered := by
 unfold partSlots at h; rcases List.mem_append.1 h with h | h
 · exact slot_num h
 · split at h
   · intro _ _ _; have : ∀ s ∈ headSlots, s.num ∈ numbered := by decide
     exact this s h
   · cases h
theorem partSlots_len (kind : Int) : (partSlots kind).length ≤ 133 := by
 unfold partSlots; rw [List.length_append]; have h1 := slotsOf_len kind; have h2 : (if kind == 0 then headSlots else []).length ≤ 6 := by split <;> decide
 omega
theorem text_len {l : List Fld} {tag : Int} {n : Nat} (h : ∀ f ∈ l, f.2.length ≤ n) : (textOf l tag).length ≤ n := by
 unfold textOf valueOf; cases hf : l.findIdx? fun f => f.1 == tag with
 | none => simp
 | some i =>
  obtain ⟨hi, _, _⟩ := List.findIdx?_eq_some_iff_getElem.1 hf; simp only [Option.map_some]; have e : l.getD i (0, []) = l[i] := by simp [List.getD, hi]
  rw [e]; exact h _ (List.getElem_mem hi)
theorem firstOf_wt {l : List Fld} (hl : ∀ f ∈ l, f.2.length ≤ 1000000) : WT (firstOf l) := by
 cases l with
 | nil => exact (by decide : WT noMsg)
 | cons f r =>
  obtain ⟨t, s⟩ := f; have e : firstOf ((t, s) :: r) = if t == 35 then ((formAt 35).read s).elim noMsg fun c => noMsg.set 0 c else noMsg := rfl
  rw [e]; split
  · have hs := hl (t, s) (by simp); have hc0 : cellOf 35 = 0 := by decide
    cases hrd : (formAt 35).read s with
    | none => exact (by decide : WT noMsg)
    | some c =>
     have h1 := WT.read (m := noMsg) (by decide) (by dsimp only at hs; omega) hrd; rw [hc0] at h1; exact h1
  · exact (by decide : WT noMsg)
theorem partFrom_wt {l : List Fld} (hl : ∀ f ∈ l, f.2.length ≤ 1000000) : ∀ (r : List Slot) (M : Msg), WT M → WT (partFrom l M r)
 | [], M, h => h
 | s :: r, M, h => by
  unfold partFrom; refine partFrom_wt hl r _ ?_; split
  · exact WT.fits1 h (by have := text_len (tag := s.tag) hl; omega)
  · exact h
theorem partly_wt {l : List Fld} (hl : ∀ f ∈ l, f.2.length ≤ 1000000) : WT (partly l) := by
 rw [partly_eq]; have h := partFrom_wt hl (partSlots (gi (firstOf l) 0)) _ (firstOf_wt hl); unfold lifeP; split
 · exact h.set (k := 25) rfl (by decide)
 · exact h
structure PtS (w wk : World) (m : Msg) : Prop where
 ext : Ext w wk
 msg : MsgAt wk (w.heap.size + 1) m
 r2 : wk.heap[w.heap.size]? = some (.cells (msgV noMsg) 23)
theorem PtS.more {w wk w' : World} {m : Msg} (h : PtS w wk m) (hE : Ext wk w') : PtS w w' m := ⟨h.ext.trans hE, h.msg.ext hE, hE.heap h.r2⟩
theorem PtS.turned {w wk w' : World} {m m' : Msg} (h : PtS w wk m) {c : Obj} (hT : TurnR (w.heap.size + 1) c wk w') (hm : MsgAt w' (w.heap.size + 1) m') : PtS w w' m' := by
 have h2 := (Array.getElem?_eq_some_iff.1 h.r2).1; exact ⟨hT.ext h.ext (by omega), hm, (hT.block _ h2 (by omega)).trans h.r2⟩
theorem PtS.start (w : World) : PtS w ((w.alloc (.cells (msgV noMsg) 23)).alloc (.cells (msgV noMsg) 23)) noMsg := by
 refine ⟨((Ext.refl w).alloc _).alloc _, ⟨by decide, ?_⟩, ?_⟩
 · have := heap_alloc_new (w.alloc (.cells (msgV noMsg) 23)) (.cells (msgV noMsg) 23); simpa using this
 · exact ((Ext.refl _).alloc _).heap (heap_alloc_new w (.cells (msgV noMsg) 23))
theorem PtS.life {w wk : World} {m : Msg} (h : PtS w wk m) : PtS w (wk.setCell ⟨w.heap.size + 1, 25, none⟩ (.int .i64 7)) (m.set 25 (.I 7)) := by
 have hm : WT (m.set 25 (.I 7)) := h.msg.wt.set (k := 25) rfl (by decide); refine ⟨h.ext.setCell (by show w.heap.size ≤ w.heap.size + 1; omega) _, h.msg.put hm, ?_⟩; rw [Below.heap_setCell _ _ _ _ (by show w.heap.size ≠ w.heap.size + 1; omega)]; exact h.r2
theorem PtS.store {w wk : World} {m : Msg} (h : PtS w wk m) : (storeCells ⟨w.heap.size, 0, none⟩ (msgV m).toList).run Tryz.prog wk = .ok () (wk.setRow w.heap.size (msgV m)) := run_storeIn h.msg.wt h.r2 (by decide)
structure PartSay (w w' : World) (e : Ending) (m : Msg) : Prop where
 is : e = .returned (.agg (msgV m))
 ext : Ext w w'
 wt : WT m
theorem results_row1 {P : Program} {fn : Func} {p : Tmp} {ty : TypeId} (h : fn.results = #[.cell p ty]) (tmps : Array Value) (w : World) {g : Nat} {t : TypeId} {cs : Array Value} {fr : Nat × Nat} {d : TypeDesc}
 (hg : w.heap[g]? = some (.cells cs t fr)) (hu : P.underlying ty = some d) (hd : isRows d = true) (hi : (P.info? ty).map (·.size) = some cs.size)
 (hp : tmps[p]?.getD undef = .pointer (some ⟨g, 0, none⟩)) : (results fn tmps).run P w = .ok (.agg cs) w := by
 have k1 := run_loadVar_row w g t ty cs fr d hg hu (by cases d <;> first | rfl | (exact absurd hd (by simp [isRows]))) hi; simp [results, h, hp, asAddr, k1]
theorem part_ret {w wk : World} {a' : Act} {m : Msg} (h : PtS w wk m) (e2 : a'.eval (.tmp 2) = .pointer (some ⟨w.heap.size, 0, none⟩)) (hd : a'.defers = []) : bodyPost Tryz.prog Tryz.f68 (fun e w' => PartSay w w' e m) .ret a' (wk.setRow w.heap.size (msgV m)) := by
 obtain ⟨d, hd1, hd2⟩ := isStruct23; have hs := msgV_size h.msg.wt; exact bodyPost_ret (results_row1 rfl a'.tmps _ (heap_setRow h.r2) hd1 hd2 (by rw [hs]; kernel_rfl) (by simpa [Act.eval] using e2)) hd ⟨rfl, h.ext.setRow' (Nat.le_refl _) _, h.msg.wt⟩
theorem wpList_slotN {W w0 : World} {ops : Array Oper} {rest : List Oper} {o : Oper} {a : Act} {Q : Exit → Act → World → Prop} (s x : Operand) (hgd : o.guard = none)
 (ho : o.op = .call { callee := .builtin .append, args := #[s, x], argTypes := #[73, 73] }) (v : Value) (l : List Slot) (hs : a.eval s = v) (hown : OwnSl w0 W.heap.size v l) (hX : Ext W w0)
 (sl : Slot) (hx : a.eval x = .slice (some ⟨w0.heap.size, 0, none⟩) 1 1) (hlen : l.length < 1000)
 (h : ∀ v' w', OwnSl w' W.heap.size v' (l ++ [sl]) → Ext W w' → (∀ c, c < w0.heap.size → v.ownBlock ≠ some c → w'.heap[c]? = w0.heap[c]? ∧ v'.ownBlock ≠ some c) → wpList Tryz.prog ops Q rest (a.put o.dst v') w') : wpList Tryz.prog ops Q (o :: rest) a (w0.alloc (.cells (slotV sl) 76)) := by
 obtain ⟨i0, hi0, hz0, hz1, hz2⟩ := info_parts infoSlot; have hXa : Ext W (w0.alloc (.cells (slotV sl) 76)) := hX.alloc _; have hcells : ∀ j u, ([.int .i64 sl.tag, .int .i64 sl.num, .bool sl.must] : List Value)[j]? = some u → (w0.alloc (.cells (slotV sl) 76)).cell? ((⟨w0.heap.size, 0, none⟩ : Addr).add j) = some u :=
  World.news_of_block (cs := slotV sl) (t := 76) (fr := (0, 0)) (heap_alloc_new w0 _)
 refine wpList_append_lies _ hgd s x 73 ho W.heap.size 76 i0 _ 3 24 Tryz.underlying73 hi0 hz0 hz1 hz2 rfl (by decide) v l.length (slotCells l) hs (hown.ext ((Ext.refl _).alloc _)) ⟨w0.heap.size, 0, none⟩ 1 1 [.int .i64 sl.tag, .int .i64 sl.num, .bool sl.must] hx rfl hcells
  (by intro u hu; simp at hu; rcases hu with rfl | rfl | rfl <;> rfl) (by decide) (by simp only [maxLen]; omega) (by omega) hXa.size _ rfl ?_
 intro g c w9 hown9 hg9 hat9 hlt9; refine h _ w9 ?_ (Ext.grown' hXa hg9 hXa.size (fun k hk => hown.block hk)) ?_
 · unfold OwnSl; rw [slotCells_append, List.length_append]; exact hown9
 · intro c0 hc0 hne; have hsz : (w0.alloc (.cells (slotV sl) 76)).heap.size = w0.heap.size + 1 := by simp
   refine ⟨(hg9.block c0 (by omega) (fun e => hne e.symm)).trans (((Ext.refl w0).alloc _).block c0 hc0), ?_⟩; intro e; have e2 : g = c0 := by simpa [Value.ownBlock] using e
   rcases hat9 with h9 | h9
   · exact hne (by rw [h9, e2])
   · omega
def headNums : List Int := [49, 56, 34, 43, 52, 122]
theorem headNums_at {k : Nat} (h : k < 6) : headNums[k]'(show k < headNums.length from h) = headNums.getD k 0 := by
 have : ∀ k (h : k < 6), headNums[k]'(show k < headNums.length from h) = headNums.getD k 0 := by decide
 exact this k h
theorem partSlots_zero : partSlots 0 = slotsOf 0 ++ headSlots.take 6 := by
 have h : headSlots.take 6 = headSlots := by decide
 rw [h]; unfold partSlots; rw [if_pos (by decide)]
theorem headSlots_at {k : Nat} (h : k < 6) : headSlots.take (k + 1) = headSlots.take k ++ [⟨headNums.getD k 0, headNums.getD k 0, false⟩] := by
 have : ∀ k < 6, headSlots.take (k + 1) = headSlots.take k ++ [⟨headNums.getD k 0, headNums.getD k 0, false⟩] := by decide
 exact this k h
theorem OwnSl.old {w : World} {base : Nat} {v : Value} {l : List Slot} (h : OwnSl w base v l) {c : Nat} (hc : w.heap.size ≤ c) : v.ownBlock ≠ some c := by
 rcases h.2 with ⟨rfl, _⟩ | ⟨g, cap, cur, rfl, hb, hg, _⟩
 · simp [Value.ownBlock]
 · have := (Array.getElem?_eq_some_iff.1 hg).1; simp only [Value.ownBlock, ne_eq, Option.some.injEq]; omega
theorem IntsAt.of_heap {w w' : World} {b : Nat} {l : List Int} (h : IntsAt w b l) (e : w'.heap[b]? = w.heap[b]?) : IntsAt w' b l := fun j hj => (World.cell?_of_block (a := ⟨b, j, none⟩) e).trans (h j hj)
theorem partly_calls (v : Value) (l : List Fld) (w : World) (hE : Env w) (hF : FldsIn w v l) (hl : l.length ≤ 1000000) (hv : ∀ f ∈ l, f.2.length ≤ 1000000) :
 Calls Tryz.prog 68 #[v] w fun e w' => PartSay w w' e (partly l) := by
 rw [partly_eq]; obtain ⟨M0, hM0⟩ : ∃ q, firstOf l = q := ⟨_, rfl⟩
 rw [hM0]; obtain ⟨kind, hkind⟩ : ∃ q, gi M0 0 = q := ⟨_, rfl⟩
 rw [hkind]; obtain ⟨X, hX⟩ : ∃ q, partFrom l M0 (partSlots kind) = q := ⟨_, rfl⟩
 rw [hX]; obtain ⟨R, hR⟩ : ∃ q, lifeP l X = q := ⟨_, rfl⟩
 rw [hR]; have HM0 := Lib.hid hM0; have HKIND := Lib.hid hkind; have HXX := Lib.hid hX; have HR := Lib.hid hR; have hst := PtS.start w; have hzero : msgV noMsg = #[.int .i64 0, .string ⟨#[]⟩, .string ⟨#[]⟩, .int .i64 0, .bool false, .int .i64 0, .int .i64 0, .int .i64 0, .bool false, .string ⟨#[]⟩, .int .i64 0, .int .i64 0, .int .i64 0, .bool false, .int .i64 0, .int .i64 0, .int .i64 0, .int .i64 0, .string ⟨#[]⟩, .string ⟨#[]⟩, .string ⟨#[]⟩, .string ⟨#[]⟩, .string ⟨#[]⟩, .int .i64 0, .int .i64 0, .int .i64 0, .int .i64 0, .int .i64 0, .int .i64 0, .int .i64 0, .int .i64 0, .int .i64 0, .int .i64 0, .int .i64 0, .int .i64 0, .int .i64 0, .int .i64 0, .int .i64 0, .int .i64 0, .int .i64 0, .int .i64 0, .int .i64 0] := rfl; rw [hzero] at hst; have HS0 := Lib.hid hst; have HF := Lib.hid hF; have HE := Lib.hid hE; have HL := Lib.hid hl; have HVALG : RowKit.Hid (∀ (tag : Int) (w1 : World), Ext w w1 → Calls Tryz.prog 90 #[v, .int .i64 tag] w1 fun e w' => e = .returned (.tuple #[.int .i64 (placeOf l tag), .string ⟨(textOf l tag).toArray⟩]) ∧ Ext w1 w') := Lib.hid (fun tag w1 h1 => value_calls _ l tag w1 HL.out (HF.out.ext h1)); have HTX : RowKit.Hid (∀ tag, (textOf l tag).length ≤ 1000000) := Lib.hid (fun tag => text_len hv); have HSN : RowKit.Hid (∀ s ∈ partSlots kind, s.tag ≠ 98 → s.tag ≠ 18 → s.tag ≠ 530 → s.num ∈ numbered) := Lib.hid (fun s hs => partSlot_num hs); obtain ⟨A, cap, rfl, hA⟩ := hF.is; have HA := Lib.hid hA; have HV := Lib.hid hv
 obtain ⟨L, hL⟩ : ∃ n, l.length = n := ⟨_, rfl⟩
 rw [hL] at HF HVALG hl ⊢; have HLEN := Lib.hid hL; clear hM0 hkind hX hR hst hzero hF hE hA hv; cases l with
 | nil =>
  have hM0n : M0 = noMsg := HM0.out.symm; obtain rfl : L = 0 := HLEN.out.symm; have h00 : kind = 0 := by rw [← HKIND.out, hM0n]; rfl
  obtain ⟨l, hll⟩ : ∃ l : List Fld, [] = l := ⟨_, rfl⟩
  rw [hll] at HF HV HL HR HVALG HTX HXX HLEN; clear hll HA HM0; go_enter Tryz.func68, Tryz.ntmps68
  go_wp2_with fail; generalize hWW : ((w.alloc (.cells #[.int .i64 0, .string ⟨#[]⟩, .string ⟨#[]⟩, .int .i64 0, .bool false, .int .i64 0, .int .i64 0, .int .i64 0, .bool false, .string ⟨#[]⟩, .int .i64 0, .int .i64 0, .int .i64 0, .bool false, .int .i64 0, .int .i64 0, .int .i64 0, .int .i64 0, .string ⟨#[]⟩, .string ⟨#[]⟩, .string ⟨#[]⟩, .string ⟨#[]⟩, .string ⟨#[]⟩, .int .i64 0, .int .i64 0, .int .i64 0, .int .i64 0, .int .i64 0, .int .i64 0, .int .i64 0, .int .i64 0, .int .i64 0, .int .i64 0, .int .i64 0, .int .i64 0, .int .i64 0, .int .i64 0, .int .i64 0, .int .i64 0, .int .i64 0, .int .i64 0, .int .i64 0] 23)).alloc (.cells #[.int .i64 0, .string ⟨#[]⟩, .string ⟨#[]⟩, .int .i64 0, .bool false, .int .i64 0, .int .i64 0, .int .i64 0, .bool false, .string ⟨#[]⟩, .int .i64 0, .int .i64 0, .int .i64 0, .bool false, .int .i64 0, .int .i64 0, .int .i64 0, .int .i64 0, .string ⟨#[]⟩, .string ⟨#[]⟩, .string ⟨#[]⟩, .string ⟨#[]⟩, .string ⟨#[]⟩, .int .i64 0, .int .i64 0, .int .i64 0, .int .i64 0, .int .i64 0, .int .i64 0, .int .i64 0, .int .i64 0, .int .i64 0, .int .i64 0, .int .i64 0, .int .i64 0, .int .i64 0, .int .i64 0, .int .i64 0, .int .i64 0, .int .i64 0, .int .i64 0, .int .i64 0] 23)) = w4 at HS0 ⊢; clear hWW hl; have HS4 : RowKit.Hid (PtS w w4 M0) := Lib.hid (by rw [hM0n]; exact HS0.out); clear HS0 hM0n; subst h00; have ck := HS4.out.msg.cell (k := 0) (by decide); rw [cellAt_int HS4.out.msg.wt (k := 0) rfl, HKIND.out] at ck; go_wp2_with fail
  refine (slots_calls 0 _).mono ?_; rintro e w5 ⟨⟨sv, rfl, hown⟩, hE5⟩; have hown1 : OwnSl w5 w4.heap.size sv (slotsOf 0) := hown; have HOWN := Lib.hid hown1; have HX5 := Lib.hid hE5; have hck := hE5.cell ck; have HI := Lib.hid (intsAt_new w5 headNums 3); clear hown hown1 hE5 ck; go_wp2_with fail; obtain ⟨w6, hw6⟩ : ∃ q, w5.alloc (.cells (intCells headNums) 3) = q := ⟨_, rfl⟩
  have HB6 : RowKit.Hid (w5.heap.size < w6.heap.size) := Lib.hid (by rw [← hw6]; simp); have HX6 : RowKit.Hid (Ext w5 w6) := Lib.hid (by rw [← hw6]; exact (Ext.refl w5).alloc _); rw [hw6] at HI; have hw6b : w5.alloc (.cells #[.int .i64 49, .int .i64 56, .int .i64 34, .int .i64 43, .int .i64 52, .int .i64 122] 3) = w6 := hw6; rw [hw6b]; clear hw6 hw6b; go_loopw [4, 40] (fun sv i wr => ∃ k : Nat, k ≤ 6 ∧ i = .int .i64 k ∧ OwnSl wr w4.heap.size sv (slotsOf 0 ++ headSlots.take k) ∧ Ext w4 wr ∧ IntsAt wr w5.heap.size headNums ∧ sv.ownBlock ≠ some w5.heap.size ∧ w5.heap.size < wr.heap.size) (fun _ i _ => 6 - (intOf i).toNat)
  case atStart => exact ⟨0, by omega, rfl, by rw [List.take_zero, List.append_nil]; exact HOWN.out.ext HX6.out, HX5.out.trans HX6.out, HI.out, HOWN.out.old (Nat.le_refl _), HB6.out⟩
  case round =>
   obtain ⟨k, hk, rfl, hown, hX, hI, hne, hlt⟩ := hrel; have HOWN1 := Lib.hid hown; have HX1 := Lib.hid hX; have HI1 := Lib.hid hI; have HNE1 := Lib.hid hne; have HLT1 := Lib.hid hlt; clear HOWN HX5 HX6 HI HB6 hown hX hI hne hlt; by_cases h6 : k < 6
   · have hki : (k : Int) < 6 := by omega
     have q0 : wr.cell? ⟨w5.heap.size, k, none⟩ = some (.int .i64 (headNums.getD k 0)) := (HI1.out k h6).trans (congrArg (fun z => some (Value.int .i64 z)) (headNums_at h6)); have hsl := headSlots_at h6; obtain ⟨t, ht⟩ : ∃ t, headNums.getD k 0 = t := ⟨_, rfl⟩
     rw [ht] at q0 hsl; have HSL := Lib.hid hsl; have HLN : RowKit.Hid ((slotsOf 0 ++ headSlots.take k).length < 1000) := Lib.hid (by
      rw [List.length_append, List.length_take]; have := slotsOf_len 0; omega)
     clear hsl ht; obtain ⟨ls, hls⟩ : ∃ q, slotsOf 0 ++ headSlots.take k = q := ⟨_, rfl⟩
     rw [hls] at HOWN1 HLN; have HLS := Lib.hid hls; clear hls; go_wp2_with (first | (at_builtin; refine wpList_slotN (W := w4) (.tmp 44) (.tmp 48) rfl rfl _ ls rfl HOWN1.out HX1.out ⟨t, t, false⟩ rfl HLN.out ?_; intro v7 w7 hown7 hx7 ho7; have HOWN7 := Lib.hid hown7; have HX7 := Lib.hid hx7; have HO7 := Lib.hid (ho7 _ HLT1.out HNE1.out); clear hown7 hx7 ho7)); go_roundw
     case rel => exact ⟨k + 1, by omega, by go_num, by rw [HSL.out, ← List.append_assoc, HLS.out]; exact HOWN7.out, HX7.out, HI1.out.of_heap HO7.out.1, HO7.out.2, by
      have h1 := HO7.out.1; have h2 := HLT1.out; rw [Array.getElem?_eq_getElem h2] at h1; exact (Array.getElem?_eq_some_iff.1 h1).1⟩
     case measure => simp [intOf]; omega
   · have HK6 : RowKit.Hid (k = 6) := Lib.hid (by omega); have hki : (6 : Int) ≤ (k : Int) := by omega
     clear h6 hk; have HSA := Lib.hid (HS4.out.more HX1.out); have HOA : RowKit.Hid (OwnSl wr (w.heap.size + 1 + 1) u4 (partSlots 0)) := Lib.hid (by rw [partSlots_zero]; have h := HOWN1.out; rw [HK6.out] at h; exact OwnSl.more (base := w4.heap.size) h (by have := HS4.out.msg.lt; omega)); clear HOWN1 HX1 HI1 HNE1 HLT1 HS4; obtain ⟨kind, hkz⟩ : ∃ q : Int, 0 = q := ⟨_, rfl⟩
     rw [hkz] at HXX HSN HOA; clear hkz; obtain ⟨SA, scap, rfl, _⟩ := HOA.out.reads.is; obtain ⟨all, hall⟩ : ∃ q, partSlots kind = q := ⟨_, rfl⟩
     rw [hall] at HOA HSN ⊢; have HALL : RowKit.Hid (all = partSlots kind) := Lib.hid hall.symm; have HAN : RowKit.Hid (all.length ≤ 133) := Lib.hid (by rw [← hall]; exact partSlots_len _); obtain ⟨N, hN⟩ : ∃ n, all.length = n := ⟨_, rfl⟩
     rw [hN] at HAN HOA ⊢; have HNN := Lib.hid hN; have HSN : RowKit.Hid (∀ s ∈ partSlots kind, s.tag ≠ 98 → s.tag ≠ 18 → s.tag ≠ 530 → s.num ∈ numbered) := Lib.hid (by rw [hall]; exact HSN.out); clear hall hN; go_wp2_with fail; go_loopw [53] (fun j wr => ∃ (n : Nat) (M : Msg), n ≤ N ∧ j = .int .i64 n ∧ PtS w wr M ∧ OwnSl wr (w.heap.size + 1 + 1) (.slice SA N scap) all ∧ partFrom l M (all.drop n) = X) (fun j _ => N - (intOf j).toNat)
     case atStart => exact ⟨0, M0, by omega, rfl, HSA.out, HOA.out, by rw [List.drop_zero, HALL.out]; exact HXX.out⟩
     case round =>
      obtain ⟨n, M, hn, rfl, hpt, hown, hpf⟩ := hrel; have HPT := Lib.hid hpt; have HOW := Lib.hid hown; have HPF := Lib.hid hpf; clear HSA HOA hpt hown hpf; by_cases hnt : n < N
      · have hnl : n < all.length := by rw [HNN.out]; exact hnt
        obtain ⟨b2, rfl, hsa⟩ := HOW.out.reads.at (by rintro rfl; simp at hnl); obtain ⟨q0, q1, q2⟩ := hsa n hnl; have hdr : all.drop n = all[n] :: all.drop (n + 1) := List.drop_eq_getElem_cons hnl; obtain ⟨⟨st, sn, sm⟩, hsl⟩ : ∃ s, all[n] = s := ⟨_, rfl⟩
        have hmem : (⟨st, sn, sm⟩ : Slot) ∈ all := by rw [← hsl]; exact List.getElem_mem hnl
        rw [hsl] at q0 q1 q2 hdr; dsimp only at q0 q1 q2; have hni : (n : Int) < (N : Int) := by omega
        have hNb : N ≤ 133 := HAN.out; have HSM := Lib.hid (HSN.out ⟨st, sn, sm⟩ (by rw [← HALL.out]; exact hmem)); obtain ⟨pl, hpl⟩ : ∃ q, placeOf l st = q := ⟨_, rfl⟩
        obtain ⟨tx, htx⟩ : ∃ q, textOf l st = q := ⟨_, rfl⟩
        have HV2 := Lib.hid (HVALG.out st); have HTL := Lib.hid (HTX.out st); rw [hpl, htx] at HV2; rw [htx] at HTL; have HNEXT : RowKit.Hid (partFrom l (if 0 ≤ pl ∧ sn ≠ 0 ∧ sn ≠ 35 then (fitsIn ⟨st, sn, sm⟩ M tx).getD M else M) (all.drop (n + 1)) = X) := Lib.hid (by
         have h := HPF.out; rw [hdr, partFrom_cons, hpl, htx] at h; exact h)
        clear hsa hpl htx hsl hdr hmem; go_wp2_with fail; refine (HV2.out _ (HPT.out.more ((Ext.refl _).alloc _)).ext).mono ?_; rintro e w8 ⟨rfl, hE8⟩; have HS9 := Lib.hid (HPT.out.more (((Ext.refl _).alloc _).trans hE8)); have HO9 := Lib.hid (HOW.out.ext (((Ext.refl _).alloc _).trans hE8)); have hb9 := hE8.heap (heap_alloc_new wr _); obtain ⟨hq, _⟩ := blk_facts hb9; have c0 := hq 0; have c1 := hq 1; have c2 := hq 2; simp at c0 c1 c2; clear hE8 hb9 hq q0 q1 q2; by_cases hg : 0 ≤ pl ∧ sn ≠ 0 ∧ sn ≠ 35
        · obtain ⟨g1, g2, g3⟩ := hg; have k1 : (sn != 0) = true := by simpa using g2
          have k2 : (sn != 35) = true := by simpa using g3
          have HNX := HNEXT.out; rw [if_pos ⟨g1, g2, g3⟩] at HNX; have HNX := Lib.hid HNX; clear g2 g3; go_wp2_with fail; refine (slotFits_calls ⟨st, sn, sm⟩ _ M tx w8 HS9.out.msg (HE.out.ext HS9.out.ext) HSM.out HTL.out).mono ?_; rintro e w9 ⟨rfl, hm2, hgr⟩; have hT := TurnR.ofGrown hgr hm2.blk; have HS10 := Lib.hid (HS9.out.turned hT hm2); have HO10 := Lib.hid (HO9.out.turned hT (by omega)); clear hm2 hgr hT c0 c1 c2; go_wp2; go_roundw
          case rel => exact ⟨n + 1, _, by omega, by go_num, HS10.out, HO10.out, HNX.out⟩
          case measure => simp [intOf]; omega
        · have HNX := HNEXT.out; rw [if_neg hg] at HNX; have HNX := Lib.hid HNX; by_cases g1 : 0 ≤ pl
          · by_cases g2 : sn = 0
            · subst g2; clear hg; go_wp2; go_roundw
              case rel => exact ⟨n + 1, M, by omega, by go_num, HS9.out, HO9.out, HNX.out⟩
              case measure => simp [intOf]; omega
            · have g3 : sn = 35 := by
               refine Decidable.byContradiction fun h => hg ⟨g1, g2, h⟩
              subst g3; clear hg g2; go_wp2; go_roundw
              case rel => exact ⟨n + 1, M, by omega, by go_num, HS9.out, HO9.out, HNX.out⟩
              case measure => simp [intOf]; omega
          · have g4 : pl < 0 := by omega
            clear hg; go_wp2; go_roundw
            case rel => exact ⟨n + 1, M, by omega, by go_num, HS9.out, HO9.out, HNX.out⟩
            case measure => simp [intOf]; omega
      · obtain rfl : N = n := by omega
        have e : M = X := by
         have h := HPF.out; rw [List.drop_eq_nil_of_le (by rw [HNN.out]; exact Nat.le_refl _)] at h; exact h
        subst e; have HV18 := Lib.hid (HVALG.out 18); have HV59 := Lib.hid (HVALG.out 59); have hlife : R = if orders (gi M 0) && textOf l 18 == [54] && textOf l 59 == [48] then M.set 25 (.I 7) else M := HR.out.symm
        obtain ⟨p18, hp18⟩ : ∃ p, placeOf l 18 = p := ⟨_, rfl⟩
        obtain ⟨s18, hs18⟩ : ∃ p, textOf l 18 = p := ⟨_, rfl⟩
        obtain ⟨p59, hp59⟩ : ∃ p, placeOf l 59 = p := ⟨_, rfl⟩
        obtain ⟨s59, hs59⟩ : ∃ p, textOf l 59 = p := ⟨_, rfl⟩
        rw [hp18, hs18] at HV18; rw [hp59, hs59] at HV59; rw [hs18, hs59] at hlife; have ck := HPT.out.msg.cell (k := 0) (by decide); rw [cellAt_int HPT.out.msg.wt (k := 0) rfl] at ck; obtain ⟨kd, hkd⟩ : ∃ q, gi M 0 = q := ⟨_, rfl⟩
        rw [hkd] at ck hlife; have HCK := Lib.hid ck; have HLIFE := Lib.hid hlife; clear hp18 hs18 hp59 hs59 hkd ck hlife hn hnt HXX HR; go_wp2_with fail; refine (HV18.out _ HPT.out.ext).mono ?_; rintro e w11 ⟨rfl, hE11⟩; have HS11 := Lib.hid (HPT.out.more hE11); have HC11 := Lib.hid (hE11.cell HCK.out); clear hE11; go_wp2_with fail; refine (HV59.out _ HS11.out.ext).mono ?_; rintro e w12 ⟨rfl, hE12⟩; have HS12 := Lib.hid (HS11.out.more hE12); have ck := hE12.cell HC11.out; clear hE12; go_wp2_with fail; refine (orders_calls kd w12).mono ?_; rintro e w13 ⟨rfl, rfl⟩; clear ck; cases ho : orders kd with
        | false =>
         obtain rfl : R = M := by rw [HLIFE.out, ho]; rfl
         have hrow := HS12.out.msg.row.1; have hs := msgV_size HS12.out.msg.wt; have hst := HS12.out.store; go_wp2; exact part_ret HS12.out (by rfl) (by rfl)
        | true =>
         by_cases h6 : s18 = [54]
         · subst h6; by_cases h0 : s59 = [48]
           · subst h0; have e9 : R = M.set 25 (.I 7) := by rw [HLIFE.out, ho]; rfl
             have c25 := HS12.out.msg.cell (k := 25) (by decide); rw [cellAt_int HS12.out.msg.wt (k := 25) rfl] at c25; have z25 := HS12.out.msg.frozen 25; have HS3 := Lib.hid (HS12.out.life); obtain ⟨M9, h9⟩ : ∃ q, M.set 25 (.I 7) = q := ⟨_, rfl⟩
             rw [h9] at HS3 e9; obtain rfl : R = M9 := e9; clear h9; have hrow := HS3.out.msg.row.1; have hs := msgV_size HS3.out.msg.wt; have hst := HS3.out.store; go_wp2; exact part_ret HS3.out (by rfl) (by rfl)
           · have h0a : (s59 == [48]) = false := by simpa using h0
             obtain rfl : R = M := by rw [HLIFE.out, ho, h0a]; rfl
             have hrow := HS12.out.msg.row.1; have hs := msgV_size HS12.out.msg.wt; have hst := HS12.out.store; go_wp2; exact part_ret HS12.out (by rfl) (by rfl)
         · have h6a : (s18 == [54]) = false := by simpa using h6
           obtain rfl : R = M := by rw [HLIFE.out, ho, h6a]; rfl
           have hrow := HS12.out.msg.row.1; have hs := msgV_size HS12.out.msg.wt; have hst := HS12.out.store; go_wp2; exact part_ret HS12.out (by rfl) (by rfl)
 | cons f r =>
  obtain ⟨t0, s0⟩ := f; obtain ⟨b, rfl, hat⟩ := HA.out (by simp); obtain ⟨q0, q1⟩ := hat 0 (by simp); simp only [Nat.zero_mul, Nat.zero_add, List.getElem_cons_zero] at q0 q1; have hb := lt_of_cell q0; have HTB := Lib.hid hb; have HS0L := Lib.hid (HV.out (t0, s0) (by simp)); have HQ := Lib.hid q1; have c0 := HS0.out.ext.cell q0; have hl1 : 1 ≤ L := by rw [← HLEN.out]; simp
  have hl2 : (0 : Int) < (L : Int) := by omega
  have HL0 : RowKit.Hid (0 < L) := Lib.hid (by omega); have hM : M0 = if t0 == 35 then ((formAt 35).read s0).elim noMsg fun c => noMsg.set 0 c else noMsg := HM0.out.symm
  obtain ⟨l, hll⟩ : ∃ l, (t0, s0) :: r = l := ⟨_, rfl⟩
  rw [hll] at HF HV HL HR HVALG HTX HXX HLEN; clear hat q0 q1 HA HM0 hll; by_cases h35 : t0 = 35
  · subst h35; obtain ⟨rd, hrd⟩ : ∃ q, (formAt 35).read s0 = q := ⟨_, rfl⟩
    rw [hrd] at hM; have hc0 : cellOf 35 = 0 := by decide
    have hput : putRead noMsg (cellOf 35) rd = M0 := by rw [hc0, hM]; cases rd <;> rfl
    have HPUT := Lib.hid hput; have HSET : RowKit.Hid (putRead M0 (cellOf 35) rd = M0) := Lib.hid (by rw [← hput]; exact putRead_again _ _ _); have HWT : RowKit.Hid (WT M0) := Lib.hid (by
     rw [← hput]; cases rd with
     | none => exact (by decide : WT noMsg)
     | some c => exact WT.read (m := noMsg) (by decide) (by have h := HS0L.out; dsimp only at h; omega) hrd)
    have HRD := Lib.hid hrd; clear hrd hM hc0 hput; go_enter Tryz.func68, Tryz.ntmps68
    go_wp2_with fail; clear c0; generalize hWW : ((w.alloc (.cells #[.int .i64 0, .string ⟨#[]⟩, .string ⟨#[]⟩, .int .i64 0, .bool false, .int .i64 0, .int .i64 0, .int .i64 0, .bool false, .string ⟨#[]⟩, .int .i64 0, .int .i64 0, .int .i64 0, .bool false, .int .i64 0, .int .i64 0, .int .i64 0, .int .i64 0, .string ⟨#[]⟩, .string ⟨#[]⟩, .string ⟨#[]⟩, .string ⟨#[]⟩, .string ⟨#[]⟩, .int .i64 0, .int .i64 0, .int .i64 0, .int .i64 0, .int .i64 0, .int .i64 0, .int .i64 0, .int .i64 0, .int .i64 0, .int .i64 0, .int .i64 0, .int .i64 0, .int .i64 0, .int .i64 0, .int .i64 0, .int .i64 0, .int .i64 0, .int .i64 0, .int .i64 0] 23)).alloc (.cells #[.int .i64 0, .string ⟨#[]⟩, .string ⟨#[]⟩, .int .i64 0, .bool false, .int .i64 0, .int .i64 0, .int .i64 0, .bool false, .string ⟨#[]⟩, .int .i64 0, .int .i64 0, .int .i64 0, .bool false, .int .i64 0, .int .i64 0, .int .i64 0, .int .i64 0, .string ⟨#[]⟩, .string ⟨#[]⟩, .string ⟨#[]⟩, .string ⟨#[]⟩, .string ⟨#[]⟩, .int .i64 0, .int .i64 0, .int .i64 0, .int .i64 0, .int .i64 0, .int .i64 0, .int .i64 0, .int .i64 0, .int .i64 0, .int .i64 0, .int .i64 0, .int .i64 0, .int .i64 0, .int .i64 0, .int .i64 0, .int .i64 0, .int .i64 0, .int .i64 0, .int .i64 0] 23)) = W at HS0 ⊢; clear hWW; have HQ1 := Lib.hid (HS0.out.ext.cell HQ.out); clear hl1 hl2 hl
    refine wp_region_rsteps (Turn (w.heap.size + 1) (.cells (msgV M0) 23)) (fun _ => by kernel_rfl) [.form 35 (formAt 35) (cellOf 35), .take (formAt 35) (cellOf 35), .is (.slice (some ⟨b, 0, none⟩) L cap), .is (.pointer (some ⟨b, 0, none⟩)), .is (.pointer (some ⟨b, 1, none⟩)), .is (.string ⟨s0.toArray⟩), .msg (.bool rd.isSome)] (by kernel_rfl) ?_ ?_
    · refine And.intro ?_ (And.intro ?_ (And.intro ?_ (And.intro ?_ (And.intro ?_ (And.intro ?_ (And.intro ?_ (True.intro)))))))
      · intro ρ w' hE hB hD; have ec : ∀ c, ρ (.const c) = c := fun c => hB (.const c) rfl
        have hB0 := fun f => hB (.func f) rfl
        clear hB hD; refine .inl ⟨rfl, ?_⟩; refine gives_call ent_fix_formOf (hB0 _) ?_; simp only [List.map_cons, List.map_nil, ec]; refine (form35_calls (w.heap.size + 1) w' (by have := HS0.out.msg.lt; have := hE.size; omega)).mono ?_; rintro e w'' ⟨⟨v, rfl, hv⟩, hE2⟩; exact ⟨v, rfl, TurnR.ofExt hE2, hv⟩
      · intro ρ w' hE hB hD; have r25 := hD 0 25 rfl rfl; change Rl.Post.p (.form 35 (formAt 35) (cellOf 35)) _ _ at r25; clear hB hD; refine .inl ⟨rfl, ?_⟩; unfold Gives; obtain ⟨fa, fb, fc, e25, h1, h2, h3⟩ := r25.is; go_simp; exact ⟨Rl.refl _ _, h3⟩
      · intro ρ w' hE hB hD; have e0 : ρ (.tmp 0) = _ := hB (.tmp 0) rfl; clear hB hD; refine .inl ⟨rfl, ?_⟩; unfold Gives; go_simp; first | done | exact yr1 | exact yr0 | exact yr2
      · intro ρ w' hE hB hD; have ec : ∀ c, ρ (.const c) = c := fun c => hB (.const c) rfl
        have h0 : 0 < L := HL0.out; have e27 : ρ (.tmp 27) = .slice (some ⟨b, 0, none⟩) L cap := hD 2 27 rfl rfl; clear hB hD; refine .inl ⟨rfl, ?_⟩; unfold Gives; go_simp; first | done | exact yr1 | exact yr0 | exact yr2
      · intro ρ w' hE hB hD; have e28 : ρ (.tmp 28) = .pointer (some ⟨b, 0, none⟩) := hD 3 28 rfl rfl; clear hB hD; refine .inl ⟨rfl, ?_⟩; unfold Gives; go_simp; first | done | exact yr1 | exact yr0 | exact yr2
      · intro ρ w' hE hB hD; have q1 := hE.cell HQ1.out (by have := HTB.out; omega); have e29 : ρ (.tmp 29) = .pointer (some ⟨b, 1, none⟩) := hD 4 29 rfl rfl; clear hB hD; refine .inl ⟨rfl, ?_⟩; unfold Gives; go_simp; first | done | exact yr1 | exact yr0 | exact yr2
      · intro ρ w' hE hB hD; have e3 : ρ (.tmp 3) = _ := hB (.tmp 3) rfl; have r26 := hD 1 26 rfl rfl; change Rl.Post.p (.take (formAt 35) (cellOf 35)) _ _ at r26; have e30 : ρ (.tmp 30) = .string ⟨s0.toArray⟩ := hD 5 30 rfl rfl; clear hB hD; refine .inl ⟨rfl, ?_⟩; obtain ⟨fid, caps, ef, h1, h2⟩ := r26; refine gives_callT h1 ef ?_; simp only [List.map_cons, List.map_nil, e3, e30]; have hext := hE.ext HS0.out.ext (by omega); have hold : MsgAt w' (w.heap.size + 1) noMsg ∨ MsgAt w' (w.heap.size + 1) M0 := (hE.one HS0.out.msg.lt).imp (fun h => ⟨HS0.out.msg.wt, h.trans HS0.out.msg.blk⟩) (fun h => ⟨HWT.out, h⟩); rcases hold with hm | hm
        · refine (h2 w' ⟨rfl, rfl, rfl, Nat.le_refl _, fun _ _ _ => rfl⟩ (HE.out.ext hext) _ _ s0 hm HS0L.out).mono ?_; rw [HRD.out]; rintro e w'' ⟨rfl, hm2, hg⟩; rw [HPUT.out] at hm2; exact ⟨_, rfl, TurnR.ofGrown hg hm2.blk, rfl, hm2⟩
        · refine (h2 w' ⟨rfl, rfl, rfl, Nat.le_refl _, fun _ _ _ => rfl⟩ (HE.out.ext hext) _ _ s0 hm HS0L.out).mono ?_; rw [HRD.out]; rintro e w'' ⟨rfl, hm2, hg⟩; rw [HSET.out] at hm2; exact ⟨_, rfl, TurnR.ofGrown hg hm2.blk, rfl, hm2⟩
    · intro a' w4 hE4 hd' hs' hB' hP' hN'; obtain ⟨x25, hx25⟩ : ∃ x, a'.eval (.tmp 25) = x := ⟨_, rfl⟩
      have r25 := hP' 0 25 rfl; change Rl.Post.p (.form 35 (formAt 35) (cellOf 35)) _ _ at r25; rw [hx25] at r25; obtain ⟨x26, hx26⟩ : ∃ x, a'.eval (.tmp 26) = x := ⟨_, rfl⟩
      have r26 := hP' 1 26 rfl; change Rl.Post.p (.take (formAt 35) (cellOf 35)) _ _ at r26; rw [hx26] at r26; obtain ⟨x31, hx31⟩ : ∃ x, a'.eval (.tmp 31) = x := ⟨_, rfl⟩
      have r31 := hP' 6 31 rfl; change Rl.Post.p (.msg (.bool rd.isSome)) _ _ at r31; rw [hx31] at r31; have ha' := act_of_posts [(25, x25), (26, x26), (27, .slice (some ⟨b, 0, none⟩) L cap), (28, .pointer (some ⟨b, 0, none⟩)), (29, .pointer (some ⟨b, 1, none⟩)), (30, .string ⟨s0.toArray⟩), (31, x31)] hd' hs' hB' (by simp) (by kernel_rfl) (by
       intro p hp; simp only [List.mem_cons, List.mem_nil_iff, or_false] at hp
       rcases hp with rfl | rfl | rfl | rfl | rfl | rfl | rfl
       · exact hx25
       · exact hx26
       · exact hP' 2 27 rfl
       · exact hP' 3 28 rfl
       · exact hP' 4 29 rfl
       · exact hP' 5 30 rfl
       · exact hx31)
      clear hB' hP' hs' hd'; simp only [List.foldl_cons, List.foldl_nil, List.setIfInBounds_toArray, List.set_cons_succ, List.set_cons_zero] at ha'; subst ha'; clear hx25 hx26 hx31; have HS4 := Lib.hid (HS0.out.turned hE4 r31.2); obtain ⟨rfl, _⟩ := r31; clear hE4 r25 r26 HS0; by_cases hk0 : kind = 0
      · have h00 := hk0; clear hk0; subst h00; have ck := HS4.out.msg.cell (k := 0) (by decide); rw [cellAt_int HS4.out.msg.wt (k := 0) rfl, HKIND.out] at ck; go_wp2_with fail; refine (slots_calls 0 _).mono ?_; rintro e w5 ⟨⟨sv, rfl, hown⟩, hE5⟩; have hown1 : OwnSl w5 w4.heap.size sv (slotsOf 0) := hown; have HOWN := Lib.hid hown1; have HX5 := Lib.hid hE5; have hck := hE5.cell ck; have HI := Lib.hid (intsAt_new w5 headNums 3); clear hown hown1 hE5 ck; go_wp2_with fail; obtain ⟨w6, hw6⟩ : ∃ q, w5.alloc (.cells (intCells headNums) 3) = q := ⟨_, rfl⟩
        have HB6 : RowKit.Hid (w5.heap.size < w6.heap.size) := Lib.hid (by rw [← hw6]; simp); have HX6 : RowKit.Hid (Ext w5 w6) := Lib.hid (by rw [← hw6]; exact (Ext.refl w5).alloc _); rw [hw6] at HI; have hw6b : w5.alloc (.cells #[.int .i64 49, .int .i64 56, .int .i64 34, .int .i64 43, .int .i64 52, .int .i64 122] 3) = w6 := hw6; rw [hw6b]; clear hw6 hw6b; go_loopw [4, 40] (fun sv i wr => ∃ k : Nat, k ≤ 6 ∧ i = .int .i64 k ∧ OwnSl wr w4.heap.size sv (slotsOf 0 ++ headSlots.take k) ∧ Ext w4 wr ∧ IntsAt wr w5.heap.size headNums ∧ sv.ownBlock ≠ some w5.heap.size ∧ w5.heap.size < wr.heap.size) (fun _ i _ => 6 - (intOf i).toNat)
        case atStart => exact ⟨0, by omega, rfl, by rw [List.take_zero, List.append_nil]; exact HOWN.out.ext HX6.out, HX5.out.trans HX6.out, HI.out, HOWN.out.old (Nat.le_refl _), HB6.out⟩
        case round =>
         obtain ⟨k, hk, rfl, hown, hX, hI, hne, hlt⟩ := hrel; have HOWN1 := Lib.hid hown; have HX1 := Lib.hid hX; have HI1 := Lib.hid hI; have HNE1 := Lib.hid hne; have HLT1 := Lib.hid hlt; clear HOWN HX5 HX6 HI HB6 hown hX hI hne hlt; by_cases h6 : k < 6
         · have hki : (k : Int) < 6 := by omega
           have q0 : wr.cell? ⟨w5.heap.size, k, none⟩ = some (.int .i64 (headNums.getD k 0)) := (HI1.out k h6).trans (congrArg (fun z => some (Value.int .i64 z)) (headNums_at h6)); have hsl := headSlots_at h6; obtain ⟨t, ht⟩ : ∃ t, headNums.getD k 0 = t := ⟨_, rfl⟩
           rw [ht] at q0 hsl; have HSL := Lib.hid hsl; have HLN : RowKit.Hid ((slotsOf 0 ++ headSlots.take k).length < 1000) := Lib.hid (by
            rw [List.length_append, List.length_take]; have := slotsOf_len 0; omega)
           clear hsl ht; obtain ⟨ls, hls⟩ : ∃ q, slotsOf 0 ++ headSlots.take k = q := ⟨_, rfl⟩
           rw [hls] at HOWN1 HLN; have HLS := Lib.hid hls; clear hls; go_wp2_with (first | (at_builtin; refine wpList_slotN (W := w4) (.tmp 44) (.tmp 48) rfl rfl _ ls rfl HOWN1.out HX1.out ⟨t, t, false⟩ rfl HLN.out ?_; intro v7 w7 hown7 hx7 ho7; have HOWN7 := Lib.hid hown7; have HX7 := Lib.hid hx7; have HO7 := Lib.hid (ho7 _ HLT1.out HNE1.out); clear hown7 hx7 ho7)); go_roundw
           case rel => exact ⟨k + 1, by omega, by go_num, by rw [HSL.out, ← List.append_assoc, HLS.out]; exact HOWN7.out, HX7.out, HI1.out.of_heap HO7.out.1, HO7.out.2, by
            have h1 := HO7.out.1; have h2 := HLT1.out; rw [Array.getElem?_eq_getElem h2] at h1; exact (Array.getElem?_eq_some_iff.1 h1).1⟩
           case measure => simp [intOf]; omega
         · have HK6 : RowKit.Hid (k = 6) := Lib.hid (by omega); have hki : (6 : Int) ≤ (k : Int) := by omega
           clear h6 hk; have HSA := Lib.hid (HS4.out.more HX1.out); have HOA : RowKit.Hid (OwnSl wr (w.heap.size + 1 + 1) u4 (partSlots 0)) := Lib.hid (by rw [partSlots_zero]; have h := HOWN1.out; rw [HK6.out] at h; exact OwnSl.more (base := w4.heap.size) h (by have := HS4.out.msg.lt; omega)); clear HOWN1 HX1 HI1 HNE1 HLT1 HS4; obtain ⟨kind, hkz⟩ : ∃ q : Int, 0 = q := ⟨_, rfl⟩
           rw [hkz] at HXX HSN HOA; clear hkz; obtain ⟨SA, scap, rfl, _⟩ := HOA.out.reads.is; obtain ⟨all, hall⟩ : ∃ q, partSlots kind = q := ⟨_, rfl⟩
           rw [hall] at HOA HSN ⊢; have HALL : RowKit.Hid (all = partSlots kind) := Lib.hid hall.symm; have HAN : RowKit.Hid (all.length ≤ 133) := Lib.hid (by rw [← hall]; exact partSlots_len _); obtain ⟨N, hN⟩ : ∃ n, all.length = n := ⟨_, rfl⟩
           rw [hN] at HAN HOA ⊢; have HNN := Lib.hid hN; have HSN : RowKit.Hid (∀ s ∈ partSlots kind, s.tag ≠ 98 → s.tag ≠ 18 → s.tag ≠ 530 → s.num ∈ numbered) := Lib.hid (by rw [hall]; exact HSN.out); clear hall hN; go_wp2_with fail; go_loopw [53] (fun j wr => ∃ (n : Nat) (M : Msg), n ≤ N ∧ j = .int .i64 n ∧ PtS w wr M ∧ OwnSl wr (w.heap.size + 1 + 1) (.slice SA N scap) all ∧ partFrom l M (all.drop n) = X) (fun j _ => N - (intOf j).toNat)
           case atStart => exact ⟨0, M0, by omega, rfl, HSA.out, HOA.out, by rw [List.drop_zero, HALL.out]; exact HXX.out⟩
           case round =>
            obtain ⟨n, M, hn, rfl, hpt, hown, hpf⟩ := hrel; have HPT := Lib.hid hpt; have HOW := Lib.hid hown; have HPF := Lib.hid hpf; clear HSA HOA hpt hown hpf; by_cases hnt : n < N
            · have hnl : n < all.length := by rw [HNN.out]; exact hnt
              obtain ⟨b2, rfl, hsa⟩ := HOW.out.reads.at (by rintro rfl; simp at hnl); obtain ⟨q0, q1, q2⟩ := hsa n hnl; have hdr : all.drop n = all[n] :: all.drop (n + 1) := List.drop_eq_getElem_cons hnl; obtain ⟨⟨st, sn, sm⟩, hsl⟩ : ∃ s, all[n] = s := ⟨_, rfl⟩
              have hmem : (⟨st, sn, sm⟩ : Slot) ∈ all := by rw [← hsl]; exact List.getElem_mem hnl
              rw [hsl] at q0 q1 q2 hdr; dsimp only at q0 q1 q2; have hni : (n : Int) < (N : Int) := by omega
              have hNb : N ≤ 133 := HAN.out; have HSM := Lib.hid (HSN.out ⟨st, sn, sm⟩ (by rw [← HALL.out]; exact hmem)); obtain ⟨pl, hpl⟩ : ∃ q, placeOf l st = q := ⟨_, rfl⟩
              obtain ⟨tx, htx⟩ : ∃ q, textOf l st = q := ⟨_, rfl⟩
              have HV2 := Lib.hid (HVALG.out st); have HTL := Lib.hid (HTX.out st); rw [hpl, htx] at HV2; rw [htx] at HTL; have HNEXT : RowKit.Hid (partFrom l (if 0 ≤ pl ∧ sn ≠ 0 ∧ sn ≠ 35 then (fitsIn ⟨st, sn, sm⟩ M tx).getD M else M) (all.drop (n + 1)) = X) := Lib.hid (by
               have h := HPF.out; rw [hdr, partFrom_cons, hpl, htx] at h; exact h)
              clear hsa hpl htx hsl hdr hmem; go_wp2_with fail; refine (HV2.out _ (HPT.out.more ((Ext.refl _).alloc _)).ext).mono ?_; rintro e w8 ⟨rfl, hE8⟩; have HS9 := Lib.hid (HPT.out.more (((Ext.refl _).alloc _).trans hE8)); have HO9 := Lib.hid (HOW.out.ext (((Ext.refl _).alloc _).trans hE8)); have hb9 := hE8.heap (heap_alloc_new wr _); obtain ⟨hq, _⟩ := blk_facts hb9; have c0 := hq 0; have c1 := hq 1; have c2 := hq 2; simp at c0 c1 c2; clear hE8 hb9 hq q0 q1 q2; by_cases hg : 0 ≤ pl ∧ sn ≠ 0 ∧ sn ≠ 35
              · obtain ⟨g1, g2, g3⟩ := hg; have k1 : (sn != 0) = true := by simpa using g2
                have k2 : (sn != 35) = true := by simpa using g3
                have HNX := HNEXT.out; rw [if_pos ⟨g1, g2, g3⟩] at HNX; have HNX := Lib.hid HNX; clear g2 g3; go_wp2_with fail; refine (slotFits_calls ⟨st, sn, sm⟩ _ M tx w8 HS9.out.msg (HE.out.ext HS9.out.ext) HSM.out HTL.out).mono ?_; rintro e w9 ⟨rfl, hm2, hgr⟩; have hT := TurnR.ofGrown hgr hm2.blk; have HS10 := Lib.hid (HS9.out.turned hT hm2); have HO10 := Lib.hid (HO9.out.turned hT (by omega)); clear hm2 hgr hT c0 c1 c2; go_wp2; go_roundw
                case rel => exact ⟨n + 1, _, by omega, by go_num, HS10.out, HO10.out, HNX.out⟩
                case measure => simp [intOf]; omega
              · have HNX := HNEXT.out; rw [if_neg hg] at HNX; have HNX := Lib.hid HNX; by_cases g1 : 0 ≤ pl
                · by_cases g2 : sn = 0
                  · subst g2; clear hg; go_wp2; go_roundw
                    case rel => exact ⟨n + 1, M, by omega, by go_num, HS9.out, HO9.out, HNX.out⟩
                    case measure => simp [intOf]; omega
                  · have g3 : sn = 35 := by
                     refine Decidable.byContradiction fun h => hg ⟨g1, g2, h⟩
                    subst g3; clear hg g2; go_wp2; go_roundw
                    case rel => exact ⟨n + 1, M, by omega, by go_num, HS9.out, HO9.out, HNX.out⟩
                    case measure => simp [intOf]; omega
                · have g4 : pl < 0 := by omega
                  clear hg; go_wp2; go_roundw
                  case rel => exact ⟨n + 1, M, by omega, by go_num, HS9.out, HO9.out, HNX.out⟩
                  case measure => simp [intOf]; omega
            · obtain rfl : N = n := by omega
              have e : M = X := by
               have h := HPF.out; rw [List.drop_eq_nil_of_le (by rw [HNN.out]; exact Nat.le_refl _)] at h; exact h
              subst e; have HV18 := Lib.hid (HVALG.out 18); have HV59 := Lib.hid (HVALG.out 59); have hlife : R = if orders (gi M 0) && textOf l 18 == [54] && textOf l 59 == [48] then M.set 25 (.I 7) else M := HR.out.symm
              obtain ⟨p18, hp18⟩ : ∃ p, placeOf l 18 = p := ⟨_, rfl⟩
              obtain ⟨s18, hs18⟩ : ∃ p, textOf l 18 = p := ⟨_, rfl⟩
              obtain ⟨p59, hp59⟩ : ∃ p, placeOf l 59 = p := ⟨_, rfl⟩
              obtain ⟨s59, hs59⟩ : ∃ p, textOf l 59 = p := ⟨_, rfl⟩
              rw [hp18, hs18] at HV18; rw [hp59, hs59] at HV59; rw [hs18, hs59] at hlife; have ck := HPT.out.msg.cell (k := 0) (by decide); rw [cellAt_int HPT.out.msg.wt (k := 0) rfl] at ck; obtain ⟨kd, hkd⟩ : ∃ q, gi M 0 = q := ⟨_, rfl⟩
              rw [hkd] at ck hlife; have HCK := Lib.hid ck; have HLIFE := Lib.hid hlife; clear hp18 hs18 hp59 hs59 hkd ck hlife hn hnt HXX HR; go_wp2_with fail; refine (HV18.out _ HPT.out.ext).mono ?_; rintro e w11 ⟨rfl, hE11⟩; have HS11 := Lib.hid (HPT.out.more hE11); have HC11 := Lib.hid (hE11.cell HCK.out); clear hE11; go_wp2_with fail; refine (HV59.out _ HS11.out.ext).mono ?_; rintro e w12 ⟨rfl, hE12⟩; have HS12 := Lib.hid (HS11.out.more hE12); have ck := hE12.cell HC11.out; clear hE12; go_wp2_with fail; refine (orders_calls kd w12).mono ?_; rintro e w13 ⟨rfl, rfl⟩; clear ck; cases ho : orders kd with
              | false =>
               obtain rfl : R = M := by rw [HLIFE.out, ho]; rfl
               have hrow := HS12.out.msg.row.1; have hs := msgV_size HS12.out.msg.wt; have hst := HS12.out.store; go_wp2; exact part_ret HS12.out (by rfl) (by rfl)
              | true =>
               by_cases h6 : s18 = [54]
               · subst h6; by_cases h0 : s59 = [48]
                 · subst h0; have e9 : R = M.set 25 (.I 7) := by rw [HLIFE.out, ho]; rfl
                   have c25 := HS12.out.msg.cell (k := 25) (by decide); rw [cellAt_int HS12.out.msg.wt (k := 25) rfl] at c25; have z25 := HS12.out.msg.frozen 25; have HS3 := Lib.hid (HS12.out.life); obtain ⟨M9, h9⟩ : ∃ q, M.set 25 (.I 7) = q := ⟨_, rfl⟩
                   rw [h9] at HS3 e9; obtain rfl : R = M9 := e9; clear h9; have hrow := HS3.out.msg.row.1; have hs := msgV_size HS3.out.msg.wt; have hst := HS3.out.store; go_wp2; exact part_ret HS3.out (by rfl) (by rfl)
                 · have h0a : (s59 == [48]) = false := by simpa using h0
                   obtain rfl : R = M := by rw [HLIFE.out, ho, h0a]; rfl
                   have hrow := HS12.out.msg.row.1; have hs := msgV_size HS12.out.msg.wt; have hst := HS12.out.store; go_wp2; exact part_ret HS12.out (by rfl) (by rfl)
               · have h6a : (s18 == [54]) = false := by simpa using h6
                 obtain rfl : R = M := by rw [HLIFE.out, ho, h6a]; rfl
                 have hrow := HS12.out.msg.row.1; have hs := msgV_size HS12.out.msg.wt; have hst := HS12.out.store; go_wp2; exact part_ret HS12.out (by rfl) (by rfl)
      · skip
        have hk1 : (kind == 0) = false := by simpa using hk0
        have ck := HS4.out.msg.cell (k := 0) (by decide); rw [cellAt_int HS4.out.msg.wt (k := 0) rfl, HKIND.out] at ck; go_wp2_with fail; refine (slots_calls kind _).mono ?_; rintro e w5 ⟨⟨sv, rfl, hown⟩, hE5⟩; have HSA := Lib.hid (HS4.out.more hE5); have hck := hE5.cell ck; have HOA : RowKit.Hid (OwnSl w5 (w.heap.size + 1 + 1) sv (partSlots kind)) := Lib.hid (by
         have e : partSlots kind = slotsOf kind := by unfold partSlots; rw [hk1]; simp
         rw [e]; exact hown.more (by have := HS4.out.msg.lt; omega))
        clear hown hE5 ck HS4; obtain ⟨SA, scap, rfl, _⟩ := HOA.out.reads.is; obtain ⟨all, hall⟩ : ∃ q, partSlots kind = q := ⟨_, rfl⟩
        rw [hall] at HOA HSN ⊢; have HALL : RowKit.Hid (all = partSlots kind) := Lib.hid hall.symm; have HAN : RowKit.Hid (all.length ≤ 133) := Lib.hid (by rw [← hall]; exact partSlots_len _); obtain ⟨N, hN⟩ : ∃ n, all.length = n := ⟨_, rfl⟩
        rw [hN] at HAN HOA ⊢; have HNN := Lib.hid hN; have HSN : RowKit.Hid (∀ s ∈ partSlots kind, s.tag ≠ 98 → s.tag ≠ 18 → s.tag ≠ 530 → s.num ∈ numbered) := Lib.hid (by rw [hall]; exact HSN.out); clear hall hN; go_wp2_with fail; go_loopw [53] (fun j wr => ∃ (n : Nat) (M : Msg), n ≤ N ∧ j = .int .i64 n ∧ PtS w wr M ∧ OwnSl wr (w.heap.size + 1 + 1) (.slice SA N scap) all ∧ partFrom l M (all.drop n) = X) (fun j _ => N - (intOf j).toNat)
        case atStart => exact ⟨0, M0, by omega, rfl, HSA.out, HOA.out, by rw [List.drop_zero, HALL.out]; exact HXX.out⟩
        case round =>
         obtain ⟨n, M, hn, rfl, hpt, hown, hpf⟩ := hrel; have HPT := Lib.hid hpt; have HOW := Lib.hid hown; have HPF := Lib.hid hpf; clear HSA HOA hpt hown hpf; by_cases hnt : n < N
         · have hnl : n < all.length := by rw [HNN.out]; exact hnt
           obtain ⟨b2, rfl, hsa⟩ := HOW.out.reads.at (by rintro rfl; simp at hnl); obtain ⟨q0, q1, q2⟩ := hsa n hnl; have hdr : all.drop n = all[n] :: all.drop (n + 1) := List.drop_eq_getElem_cons hnl; obtain ⟨⟨st, sn, sm⟩, hsl⟩ : ∃ s, all[n] = s := ⟨_, rfl⟩
           have hmem : (⟨st, sn, sm⟩ : Slot) ∈ all := by rw [← hsl]; exact List.getElem_mem hnl
           rw [hsl] at q0 q1 q2 hdr; dsimp only at q0 q1 q2; have hni : (n : Int) < (N : Int) := by omega
           have hNb : N ≤ 133 := HAN.out; have HSM := Lib.hid (HSN.out ⟨st, sn, sm⟩ (by rw [← HALL.out]; exact hmem)); obtain ⟨pl, hpl⟩ : ∃ q, placeOf l st = q := ⟨_, rfl⟩
           obtain ⟨tx, htx⟩ : ∃ q, textOf l st = q := ⟨_, rfl⟩
           have HV2 := Lib.hid (HVALG.out st); have HTL := Lib.hid (HTX.out st); rw [hpl, htx] at HV2; rw [htx] at HTL; have HNEXT : RowKit.Hid (partFrom l (if 0 ≤ pl ∧ sn ≠ 0 ∧ sn ≠ 35 then (fitsIn ⟨st, sn, sm⟩ M tx).getD M else M) (all.drop (n + 1)) = X) := Lib.hid (by
            have h := HPF.out; rw [hdr, partFrom_cons, hpl, htx] at h; exact h)
           clear hsa hpl htx hsl hdr hmem; go_wp2_with fail; refine (HV2.out _ (HPT.out.more ((Ext.refl _).alloc _)).ext).mono ?_; rintro e w8 ⟨rfl, hE8⟩; have HS9 := Lib.hid (HPT.out.more (((Ext.refl _).alloc _).trans hE8)); have HO9 := Lib.hid (HOW.out.ext (((Ext.refl _).alloc _).trans hE8)); have hb9 := hE8.heap (heap_alloc_new wr _); obtain ⟨hq, _⟩ := blk_facts hb9; have c0 := hq 0; have c1 := hq 1; have c2 := hq 2; simp at c0 c1 c2; clear hE8 hb9 hq q0 q1 q2; by_cases hg : 0 ≤ pl ∧ sn ≠ 0 ∧ sn ≠ 35
           · obtain ⟨g1, g2, g3⟩ := hg; have k1 : (sn != 0) = true := by simpa using g2
             have k2 : (sn != 35) = true := by simpa using g3
             have HNX := HNEXT.out; rw [if_pos ⟨g1, g2, g3⟩] at HNX; have HNX := Lib.hid HNX; clear g2 g3; go_wp2_with fail; refine (slotFits_calls ⟨st, sn, sm⟩ _ M tx w8 HS9.out.msg (HE.out.ext HS9.out.ext) HSM.out HTL.out).mono ?_; rintro e w9 ⟨rfl, hm2, hgr⟩; have hT := TurnR.ofGrown hgr hm2.blk; have HS10 := Lib.hid (HS9.out.turned hT hm2); have HO10 := Lib.hid (HO9.out.turned hT (by omega)); clear hm2 hgr hT c0 c1 c2; go_wp2; go_roundw
             case rel => exact ⟨n + 1, _, by omega, by go_num, HS10.out, HO10.out, HNX.out⟩
             case measure => simp [intOf]; omega
           · have HNX := HNEXT.out; rw [if_neg hg] at HNX; have HNX := Lib.hid HNX; by_cases g1 : 0 ≤ pl
             · by_cases g2 : sn = 0
               · subst g2; clear hg; go_wp2; go_roundw
                 case rel => exact ⟨n + 1, M, by omega, by go_num, HS9.out, HO9.out, HNX.out⟩
                 case measure => simp [intOf]; omega
               · have g3 : sn = 35 := by
                  refine Decidable.byContradiction fun h => hg ⟨g1, g2, h⟩
                 subst g3; clear hg g2; go_wp2; go_roundw
                 case rel => exact ⟨n + 1, M, by omega, by go_num, HS9.out, HO9.out, HNX.out⟩
                 case measure => simp [intOf]; omega
             · have g4 : pl < 0 := by omega
               clear hg; go_wp2; go_roundw
               case rel => exact ⟨n + 1, M, by omega, by go_num, HS9.out, HO9.out, HNX.out⟩
               case measure => simp [intOf]; omega
         · obtain rfl : N = n := by omega
           have e : M = X := by
            have h := HPF.out; rw [List.drop_eq_nil_of_le (by rw [HNN.out]; exact Nat.le_refl _)] at h; exact h
           subst e; have HV18 := Lib.hid (HVALG.out 18); have HV59 := Lib.hid (HVALG.out 59); have hlife : R = if orders (gi M 0) && textOf l 18 == [54] && textOf l 59 == [48] then M.set 25 (.I 7) else M := HR.out.symm
           obtain ⟨p18, hp18⟩ : ∃ p, placeOf l 18 = p := ⟨_, rfl⟩
           obtain ⟨s18, hs18⟩ : ∃ p, textOf l 18 = p := ⟨_, rfl⟩
           obtain ⟨p59, hp59⟩ : ∃ p, placeOf l 59 = p := ⟨_, rfl⟩
           obtain ⟨s59, hs59⟩ : ∃ p, textOf l 59 = p := ⟨_, rfl⟩
           rw [hp18, hs18] at HV18; rw [hp59, hs59] at HV59; rw [hs18, hs59] at hlife; have ck := HPT.out.msg.cell (k := 0) (by decide); rw [cellAt_int HPT.out.msg.wt (k := 0) rfl] at ck; obtain ⟨kd, hkd⟩ : ∃ q, gi M 0 = q := ⟨_, rfl⟩
           rw [hkd] at ck hlife; have HCK := Lib.hid ck; have HLIFE := Lib.hid hlife; clear hp18 hs18 hp59 hs59 hkd ck hlife hn hnt HXX HR; go_wp2_with fail; refine (HV18.out _ HPT.out.ext).mono ?_; rintro e w11 ⟨rfl, hE11⟩; have HS11 := Lib.hid (HPT.out.more hE11); have HC11 := Lib.hid (hE11.cell HCK.out); clear hE11; go_wp2_with fail; refine (HV59.out _ HS11.out.ext).mono ?_; rintro e w12 ⟨rfl, hE12⟩; have HS12 := Lib.hid (HS11.out.more hE12); have ck := hE12.cell HC11.out; clear hE12; go_wp2_with fail; refine (orders_calls kd w12).mono ?_; rintro e w13 ⟨rfl, rfl⟩; clear ck; cases ho : orders kd with
           | false =>
            obtain rfl : R = M := by rw [HLIFE.out, ho]; rfl
            have hrow := HS12.out.msg.row.1; have hs := msgV_size HS12.out.msg.wt; have hst := HS12.out.store; go_wp2; exact part_ret HS12.out (by rfl) (by rfl)
           | true =>
            by_cases h6 : s18 = [54]
            · subst h6; by_cases h0 : s59 = [48]
              · subst h0; have e9 : R = M.set 25 (.I 7) := by rw [HLIFE.out, ho]; rfl
                have c25 := HS12.out.msg.cell (k := 25) (by decide); rw [cellAt_int HS12.out.msg.wt (k := 25) rfl] at c25; have z25 := HS12.out.msg.frozen 25; have HS3 := Lib.hid (HS12.out.life); obtain ⟨M9, h9⟩ : ∃ q, M.set 25 (.I 7) = q := ⟨_, rfl⟩
                rw [h9] at HS3 e9; obtain rfl : R = M9 := e9; clear h9; have hrow := HS3.out.msg.row.1; have hs := msgV_size HS3.out.msg.wt; have hst := HS3.out.store; go_wp2; exact part_ret HS3.out (by rfl) (by rfl)
              · have h0a : (s59 == [48]) = false := by simpa using h0
                obtain rfl : R = M := by rw [HLIFE.out, ho, h0a]; rfl
                have hrow := HS12.out.msg.row.1; have hs := msgV_size HS12.out.msg.wt; have hst := HS12.out.store; go_wp2; exact part_ret HS12.out (by rfl) (by rfl)
            · have h6a : (s18 == [54]) = false := by simpa using h6
              obtain rfl : R = M := by rw [HLIFE.out, ho, h6a]; rfl
              have hrow := HS12.out.msg.row.1; have hs := msgV_size HS12.out.msg.wt; have hst := HS12.out.store; go_wp2; exact part_ret HS12.out (by rfl) (by rfl)
  · have h35a : (t0 == 35) = false := by simpa using h35
    have hM0n : M0 = noMsg := by rw [hM, h35a]; rfl
    have h00 : kind = 0 := by rw [← HKIND.out, hM0n]; rfl
    clear h35 hM; go_enter Tryz.func68, Tryz.ntmps68
    go_wp2_with fail; clear c0; generalize hWW : ((w.alloc (.cells #[.int .i64 0, .string ⟨#[]⟩, .string ⟨#[]⟩, .int .i64 0, .bool false, .int .i64 0, .int .i64 0, .int .i64 0, .bool false, .string ⟨#[]⟩, .int .i64 0, .int .i64 0, .int .i64 0, .bool false, .int .i64 0, .int .i64 0, .int .i64 0, .int .i64 0, .string ⟨#[]⟩, .string ⟨#[]⟩, .string ⟨#[]⟩, .string ⟨#[]⟩, .string ⟨#[]⟩, .int .i64 0, .int .i64 0, .int .i64 0, .int .i64 0, .int .i64 0, .int .i64 0, .int .i64 0, .int .i64 0, .int .i64 0, .int .i64 0, .int .i64 0, .int .i64 0, .int .i64 0, .int .i64 0, .int .i64 0, .int .i64 0, .int .i64 0, .int .i64 0, .int .i64 0] 23)).alloc (.cells #[.int .i64 0, .string ⟨#[]⟩, .string ⟨#[]⟩, .int .i64 0, .bool false, .int .i64 0, .int .i64 0, .int .i64 0, .bool false, .string ⟨#[]⟩, .int .i64 0, .int .i64 0, .int .i64 0, .bool false, .int .i64 0, .int .i64 0, .int .i64 0, .int .i64 0, .string ⟨#[]⟩, .string ⟨#[]⟩, .string ⟨#[]⟩, .string ⟨#[]⟩, .string ⟨#[]⟩, .int .i64 0, .int .i64 0, .int .i64 0, .int .i64 0, .int .i64 0, .int .i64 0, .int .i64 0, .int .i64 0, .int .i64 0, .int .i64 0, .int .i64 0, .int .i64 0, .int .i64 0, .int .i64 0, .int .i64 0, .int .i64 0, .int .i64 0, .int .i64 0, .int .i64 0] 23)) = w4 at HS0 ⊢; clear hWW hl hl1 hl2; have HS4 : RowKit.Hid (PtS w w4 M0) := Lib.hid (by rw [hM0n]; exact HS0.out); clear HS0 hM0n; subst h00; have ck := HS4.out.msg.cell (k := 0) (by decide); rw [cellAt_int HS4.out.msg.wt (k := 0) rfl, HKIND.out] at ck; go_wp2_with fail
    refine (slots_calls 0 _).mono ?_; rintro e w5 ⟨⟨sv, rfl, hown⟩, hE5⟩; have hown1 : OwnSl w5 w4.heap.size sv (slotsOf 0) := hown; have HOWN := Lib.hid hown1; have HX5 := Lib.hid hE5; have hck := hE5.cell ck; have HI := Lib.hid (intsAt_new w5 headNums 3); clear hown hown1 hE5 ck; go_wp2_with fail; obtain ⟨w6, hw6⟩ : ∃ q, w5.alloc (.cells (intCells headNums) 3) = q := ⟨_, rfl⟩
    have HB6 : RowKit.Hid (w5.heap.size < w6.heap.size) := Lib.hid (by rw [← hw6]; simp); have HX6 : RowKit.Hid (Ext w5 w6) := Lib.hid (by rw [← hw6]; exact (Ext.refl w5).alloc _); rw [hw6] at HI; have hw6b : w5.alloc (.cells #[.int .i64 49, .int .i64 56, .int .i64 34, .int .i64 43, .int .i64 52, .int .i64 122] 3) = w6 := hw6; rw [hw6b]; clear hw6 hw6b; go_loopw [4, 40] (fun sv i wr => ∃ k : Nat, k ≤ 6 ∧ i = .int .i64 k ∧ OwnSl wr w4.heap.size sv (slotsOf 0 ++ headSlots.take k) ∧ Ext w4 wr ∧ IntsAt wr w5.heap.size headNums ∧ sv.ownBlock ≠ some w5.heap.size ∧ w5.heap.size < wr.heap.size) (fun _ i _ => 6 - (intOf i).toNat)
    case atStart => exact ⟨0, by omega, rfl, by rw [List.take_zero, List.append_nil]; exact HOWN.out.ext HX6.out, HX5.out.trans HX6.out, HI.out, HOWN.out.old (Nat.le_refl _), HB6.out⟩
    case round =>
     obtain ⟨k, hk, rfl, hown, hX, hI, hne, hlt⟩ := hrel; have HOWN1 := Lib.hid hown; have HX1 := Lib.hid hX; have HI1 := Lib.hid hI; have HNE1 := Lib.hid hne; have HLT1 := Lib.hid hlt; clear HOWN HX5 HX6 HI HB6 hown hX hI hne hlt; by_cases h6 : k < 6
     · have hki : (k : Int) < 6 := by omega
       have q0 : wr.cell? ⟨w5.heap.size, k, none⟩ = some (.int .i64 (headNums.getD k 0)) := (HI1.out k h6).trans (congrArg (fun z => some (Value.int .i64 z)) (headNums_at h6)); have hsl := headSlots_at h6; obtain ⟨t, ht⟩ : ∃ t, headNums.getD k 0 = t := ⟨_, rfl⟩
       rw [ht] at q0 hsl; have HSL := Lib.hid hsl; have HLN : RowKit.Hid ((slotsOf 0 ++ headSlots.take k).length < 1000) := Lib.hid (by
        rw [List.length_append, List.length_take]; have := slotsOf_len 0; omega)
       clear hsl ht; obtain ⟨ls, hls⟩ : ∃ q, slotsOf 0 ++ headSlots.take k = q := ⟨_, rfl⟩
       rw [hls] at HOWN1 HLN; have HLS := Lib.hid hls; clear hls; go_wp2_with (first | (at_builtin; refine wpList_slotN (W := w4) (.tmp 44) (.tmp 48) rfl rfl _ ls rfl HOWN1.out HX1.out ⟨t, t, false⟩ rfl HLN.out ?_; intro v7 w7 hown7 hx7 ho7; have HOWN7 := Lib.hid hown7; have HX7 := Lib.hid hx7; have HO7 := Lib.hid (ho7 _ HLT1.out HNE1.out); clear hown7 hx7 ho7)); go_roundw
       case rel => exact ⟨k + 1, by omega, by go_num, by rw [HSL.out, ← List.append_assoc, HLS.out]; exact HOWN7.out, HX7.out, HI1.out.of_heap HO7.out.1, HO7.out.2, by
        have h1 := HO7.out.1; have h2 := HLT1.out; rw [Array.getElem?_eq_getElem h2] at h1; exact (Array.getElem?_eq_some_iff.1 h1).1⟩
       case measure => simp [intOf]; omega
     · have HK6 : RowKit.Hid (k = 6) := Lib.hid (by omega); have hki : (6 : Int) ≤ (k : Int) := by omega
       clear h6 hk; have HSA := Lib.hid (HS4.out.more HX1.out); have HOA : RowKit.Hid (OwnSl wr (w.heap.size + 1 + 1) u4 (partSlots 0)) := Lib.hid (by rw [partSlots_zero]; have h := HOWN1.out; rw [HK6.out] at h; exact OwnSl.more (base := w4.heap.size) h (by have := HS4.out.msg.lt; omega)); clear HOWN1 HX1 HI1 HNE1 HLT1 HS4; obtain ⟨kind, hkz⟩ : ∃ q : Int, 0 = q := ⟨_, rfl⟩
       rw [hkz] at HXX HSN HOA; clear hkz; obtain ⟨SA, scap, rfl, _⟩ := HOA.out.reads.is; obtain ⟨all, hall⟩ : ∃ q, partSlots kind = q := ⟨_, rfl⟩
       rw [hall] at HOA HSN ⊢; have HALL : RowKit.Hid (all = partSlots kind) := Lib.hid hall.symm; have HAN : RowKit.Hid (all.length ≤ 133) := Lib.hid (by rw [← hall]; exact partSlots_len _); obtain ⟨N, hN⟩ : ∃ n, all.length = n := ⟨_, rfl⟩
       rw [hN] at HAN HOA ⊢; have HNN := Lib.hid hN; have HSN : RowKit.Hid (∀ s ∈ partSlots kind, s.tag ≠ 98 → s.tag ≠ 18 → s.tag ≠ 530 → s.num ∈ numbered) := Lib.hid (by rw [hall]; exact HSN.out); clear hall hN; go_wp2_with fail; go_loopw [53] (fun j wr => ∃ (n : Nat) (M : Msg), n ≤ N ∧ j = .int .i64 n ∧ PtS w wr M ∧ OwnSl wr (w.heap.size + 1 + 1) (.slice SA N scap) all ∧ partFrom l M (all.drop n) = X) (fun j _ => N - (intOf j).toNat)
       case atStart => exact ⟨0, M0, by omega, rfl, HSA.out, HOA.out, by rw [List.drop_zero, HALL.out]; exact HXX.out⟩
       case round =>
        obtain ⟨n, M, hn, rfl, hpt, hown, hpf⟩ := hrel; have HPT := Lib.hid hpt; have HOW := Lib.hid hown; have HPF := Lib.hid hpf; clear HSA HOA hpt hown hpf; by_cases hnt : n < N
        · have hnl : n < all.length := by rw [HNN.out]; exact hnt
          obtain ⟨b2, rfl, hsa⟩ := HOW.out.reads.at (by rintro rfl; simp at hnl); obtain ⟨q0, q1, q2⟩ := hsa n hnl; have hdr : all.drop n = all[n] :: all.drop (n + 1) := List.drop_eq_getElem_cons hnl; obtain ⟨⟨st, sn, sm⟩, hsl⟩ : ∃ s, all[n] = s := ⟨_, rfl⟩
          have hmem : (⟨st, sn, sm⟩ : Slot) ∈ all := by rw [← hsl]; exact List.getElem_mem hnl
          rw [hsl] at q0 q1 q2 hdr; dsimp only at q0 q1 q2; have hni : (n : Int) < (N : Int) := by omega
          have hNb : N ≤ 133 := HAN.out; have HSM := Lib.hid (HSN.out ⟨st, sn, sm⟩ (by rw [← HALL.out]; exact hmem)); obtain ⟨pl, hpl⟩ : ∃ q, placeOf l st = q := ⟨_, rfl⟩
          obtain ⟨tx, htx⟩ : ∃ q, textOf l st = q := ⟨_, rfl⟩
          have HV2 := Lib.hid (HVALG.out st); have HTL := Lib.hid (HTX.out st); rw [hpl, htx] at HV2; rw [htx] at HTL; have HNEXT : RowKit.Hid (partFrom l (if 0 ≤ pl ∧ sn ≠ 0 ∧ sn ≠ 35 then (fitsIn ⟨st, sn, sm⟩ M tx).getD M else M) (all.drop (n + 1)) = X) := Lib.hid (by
           have h := HPF.out; rw [hdr, partFrom_cons, hpl, htx] at h; exact h)
          clear hsa hpl htx hsl hdr hmem; go_wp2_with fail; refine (HV2.out _ (HPT.out.more ((Ext.refl _).alloc _)).ext).mono ?_; rintro e w8 ⟨rfl, hE8⟩; have HS9 := Lib.hid (HPT.out.more (((Ext.refl _).alloc _).trans hE8)); have HO9 := Lib.hid (HOW.out.ext (((Ext.refl _).alloc _).trans hE8)); have hb9 := hE8.heap (heap_alloc_new wr _); obtain ⟨hq, _⟩ := blk_facts hb9; have c0 := hq 0; have c1 := hq 1; have c2 := hq 2; simp at c0 c1 c2; clear hE8 hb9 hq q0 q1 q2; by_cases hg : 0 ≤ pl ∧ sn ≠ 0 ∧ sn ≠ 35
          · obtain ⟨g1, g2, g3⟩ := hg; have k1 : (sn != 0) = true := by simpa using g2
            have k2 : (sn != 35) = true := by simpa using g3
            have HNX := HNEXT.out; rw [if_pos ⟨g1, g2, g3⟩] at HNX; have HNX := Lib.hid HNX; clear g2 g3; go_wp2_with fail; refine (slotFits_calls ⟨st, sn, sm⟩ _ M tx w8 HS9.out.msg (HE.out.ext HS9.out.ext) HSM.out HTL.out).mono ?_; rintro e w9 ⟨rfl, hm2, hgr⟩; have hT := TurnR.ofGrown hgr hm2.blk; have HS10 := Lib.hid (HS9.out.turned hT hm2); have HO10 := Lib.hid (HO9.out.turned hT (by omega)); clear hm2 hgr hT c0 c1 c2; go_wp2; go_roundw
            case rel => exact ⟨n + 1, _, by omega, by go_num, HS10.out, HO10.out, HNX.out⟩
            case measure => simp [intOf]; omega
          · have HNX := HNEXT.out; rw [if_neg hg] at HNX; have HNX := Lib.hid HNX; by_cases g1 : 0 ≤ pl
            · by_cases g2 : sn = 0
              · subst g2; clear hg; go_wp2; go_roundw
                case rel => exact ⟨n + 1, M, by omega, by go_num, HS9.out, HO9.out, HNX.out⟩
                case measure => simp [intOf]; omega
              · have g3 : sn = 35 := by
                 refine Decidable.byContradiction fun h => hg ⟨g1, g2, h⟩
                subst g3; clear hg g2; go_wp2; go_roundw
                case rel => exact ⟨n + 1, M, by omega, by go_num, HS9.out, HO9.out, HNX.out⟩
                case measure => simp [intOf]; omega
            · have g4 : pl < 0 := by omega
              clear hg; go_wp2; go_roundw
              case rel => exact ⟨n + 1, M, by omega, by go_num, HS9.out, HO9.out, HNX.out⟩
              case measure => simp [intOf]; omega
        · obtain rfl : N = n := by omega
          have e : M = X := by
           have h := HPF.out; rw [List.drop_eq_nil_of_le (by rw [HNN.out]; exact Nat.le_refl _)] at h; exact h
          subst e; have HV18 := Lib.hid (HVALG.out 18); have HV59 := Lib.hid (HVALG.out 59); have hlife : R = if orders (gi M 0) && textOf l 18 == [54] && textOf l 59 == [48] then M.set 25 (.I 7) else M := HR.out.symm
          obtain ⟨p18, hp18⟩ : ∃ p, placeOf l 18 = p := ⟨_, rfl⟩
          obtain ⟨s18, hs18⟩ : ∃ p, textOf l 18 = p := ⟨_, rfl⟩
          obtain ⟨p59, hp59⟩ : ∃ p, placeOf l 59 = p := ⟨_, rfl⟩
          obtain ⟨s59, hs59⟩ : ∃ p, textOf l 59 = p := ⟨_, rfl⟩
          rw [hp18, hs18] at HV18; rw [hp59, hs59] at HV59; rw [hs18, hs59] at hlife; have ck := HPT.out.msg.cell (k := 0) (by decide); rw [cellAt_int HPT.out.msg.wt (k := 0) rfl] at ck; obtain ⟨kd, hkd⟩ : ∃ q, gi M 0 = q := ⟨_, rfl⟩
          rw [hkd] at ck hlife; have HCK := Lib.hid ck; have HLIFE := Lib.hid hlife; clear hp18 hs18 hp59 hs59 hkd ck hlife hn hnt HXX HR; go_wp2_with fail; refine (HV18.out _ HPT.out.ext).mono ?_; rintro e w11 ⟨rfl, hE11⟩; have HS11 := Lib.hid (HPT.out.more hE11); have HC11 := Lib.hid (hE11.cell HCK.out); clear hE11; go_wp2_with fail; refine (HV59.out _ HS11.out.ext).mono ?_; rintro e w12 ⟨rfl, hE12⟩; have HS12 := Lib.hid (HS11.out.more hE12); have ck := hE12.cell HC11.out; clear hE12; go_wp2_with fail; refine (orders_calls kd w12).mono ?_; rintro e w13 ⟨rfl, rfl⟩; clear ck; cases ho : orders kd with
          | false =>
           obtain rfl : R = M := by rw [HLIFE.out, ho]; rfl
           have hrow := HS12.out.msg.row.1; have hs := msgV_size HS12.out.msg.wt; have hst := HS12.out.store; go_wp2; exact part_ret HS12.out (by rfl) (by rfl)
          | true =>
           by_cases h6 : s18 = [54]
           · subst h6; by_cases h0 : s59 = [48]
             · subst h0; have e9 : R = M.set 25 (.I 7) := by rw [HLIFE.out, ho]; rfl
               have c25 := HS12.out.msg.cell (k := 25) (by decide); rw [cellAt_int HS12.out.msg.wt (k := 25) rfl] at c25; have z25 := HS12.out.msg.frozen 25; have HS3 := Lib.hid (HS12.out.life); obtain ⟨M9, h9⟩ : ∃ q, M.set 25 (.I 7) = q := ⟨_, rfl⟩
               rw [h9] at HS3 e9; obtain rfl : R = M9 := e9; clear h9; have hrow := HS3.out.msg.row.1; have hs := msgV_size HS3.out.msg.wt; have hst := HS3.out.store; go_wp2; exact part_ret HS3.out (by rfl) (by rfl)
             · have h0a : (s59 == [48]) = false := by simpa using h0
               obtain rfl : R = M := by rw [HLIFE.out, ho, h0a]; rfl
               have hrow := HS12.out.msg.row.1; have hs := msgV_size HS12.out.msg.wt; have hst := HS12.out.store; go_wp2; exact part_ret HS12.out (by rfl) (by rfl)
           · have h6a : (s18 == [54]) = false := by simpa using h6
             obtain rfl : R = M := by rw [HLIFE.out, ho, h6a]; rfl
             have hrow := HS12.out.msg.row.1; have hs := msgV_size HS12.out.msg.wt; have hst := HS12.out.store; go_wp2; exact part_ret HS12.out (by rfl) (by rfl)
end
end Go.Proofs.YtdmjinlgdkgoiaaGreatDoor
