/- Of the layer fix: Fit, Read1. -/
import Derived.Test.YtdmjinlgdkgoiaaGreatDoorFeAk
import Derived.Test.YtdmjinlgdkgoiaaGreatDoorFeAs
set_option linter.unusedVariables false
set_option linter.unusedSimpArgs false
set_option maxRecDepth 100000
namespace Go.Proofs.YtdmjinlgdkgoiaaGreatDoor
section
open Go Go.RowKit
set_option maxHeartbeats 6400000
attribute [local go_sem ↓] loadVarMsg
attribute [local go_sem] ba_get loadRowMsg rowOf_new rowOf_old rowOf_drew
def fitRest (m : Msg) (l : List Fld) : Msg × Flaw :=
 if 0 ≤ placeOf l 530 ∧ textOf l 530 ≠ scopeOf m then (m, (31, placeOf l 530, 530))
 else if (valid m).1 == 0 then (m, (0, 0, 0)) else (m, ((valid m).1, if placeOf l (valid m).2 < 0 then (l.length : Int) else placeOf l (valid m).2, (valid m).2))
theorem fitAll_bad {m : Msg} {l : List Fld} (h : 0 ≤ placeOf l 18) (h2 : textOf l 59 ≠ [48]) : fitAll m l = (m, (31, placeOf l 18, 18)) := by unfold fitAll; rw [if_pos ⟨h, h2⟩]
theorem fitAll_life {m : Msg} {l : List Fld} (h : 0 ≤ placeOf l 18) (h2 : textOf l 59 = [48]) : fitAll m l = fitRest (m.set 25 (.I 7)) l := by
 unfold fitAll; rw [if_neg (fun hh => hh.2 h2)]; have : lifeOf m l = m.set 25 (.I 7) := by unfold lifeOf; rw [if_pos h]
 simp only [this]; rfl
theorem fitAll_none {m : Msg} {l : List Fld} (h : placeOf l 18 < 0) : fitAll m l = fitRest m l := by
 unfold fitAll; rw [if_neg (fun hh => by have := hh.1; omega)]; have : lifeOf m l = m := by unfold lifeOf; rw [if_neg (by omega)]
 simp only [this]; rfl
theorem fitRest_bad {m : Msg} {l : List Fld} (h : 0 ≤ placeOf l 530) (h2 : textOf l 530 ≠ scopeOf m) : fitRest m l = (m, (31, placeOf l 530, 530)) := by unfold fitRest; rw [if_pos ⟨h, h2⟩]
theorem fitRest_ok {m : Msg} {l : List Fld} (h : ¬ (0 ≤ placeOf l 530 ∧ textOf l 530 ≠ scopeOf m)) (h2 : (valid m).1 = 0) : fitRest m l = (m, (0, 0, 0)) := by unfold fitRest; rw [if_neg h, if_pos (by simpa using h2)]
theorem fitRest_far {m : Msg} {l : List Fld} (h : ¬ (0 ≤ placeOf l 530 ∧ textOf l 530 ≠ scopeOf m)) (h2 : (valid m).1 ≠ 0) (h3 : placeOf l (valid m).2 < 0) : fitRest m l = (m, ((valid m).1, (l.length : Int), (valid m).2)) := by
 unfold fitRest; rw [if_neg h, if_neg (by simpa using h2), if_pos h3]
theorem fitRest_at {m : Msg} {l : List Fld} (h : ¬ (0 ≤ placeOf l 530 ∧ textOf l 530 ≠ scopeOf m)) (h2 : (valid m).1 ≠ 0) (h3 : 0 ≤ placeOf l (valid m).2) : fitRest m l = (m, ((valid m).1, placeOf l (valid m).2, (valid m).2)) := by
 unfold fitRest; rw [if_neg h, if_neg (by simpa using h2), if_neg (by omega)]
theorem MsgAt.row {w : World} {g : Nat} {m : Msg} (h : MsgAt w g m) : rowOf w g = msgV m ∧ (rowOf w g).size = 42 := by
 have : rowOf w g = msgV m := by unfold rowOf; rw [h.blk]
 exact ⟨this, by rw [this]; exact msgV_size h.wt⟩
def flawV (f : Flaw) : Array Value := #[.int .i64 f.1, .int .i64 f.2.1, .int .i64 f.2.2]
structure FitS (w0 w wk : World) (g : Nat) (m : Msg) (fl : Array Value) : Prop where
 ext : Ext w0 wk
 msg : MsgAt wk g m
 grown : w.grownBy wk (some g)
 flaw : wk.heap[w.heap.size]? = some (.cells fl 81)
 base : w0.heap.size ≤ w.heap.size
 lt : g < w.heap.size
 old : w0.heap.size ≤ g
theorem FitS.more {w0 w wk w' : World} {g : Nat} {m : Msg} {fl : Array Value} (h : FitS w0 w wk g m fl) (hE : Ext wk w') : FitS w0 w w' g m fl :=
 ⟨h.ext.trans hE, h.msg.ext hE, turned_trans h.grown (turned_ext hE _), hE.heap h.flaw, h.base, h.lt, h.old⟩
theorem FitS.life {w0 w wk : World} {g : Nat} {m : Msg} {fl : Array Value} (h : FitS w0 w wk g m fl) (n : Int) (hn : -9223372036854775808 ≤ n ∧ n ≤ 9223372036854775807) : FitS w0 w (wk.setCell ⟨g, 25, none⟩ (.int .i64 n)) g (m.set 25 (.I n)) fl := by
 have hm : WT (m.set 25 (.I n)) := h.msg.wt.set (k := 25) rfl (by simp only [Cell.ok, Bool.and_eq_true, decide_eq_true_eq]; exact hn); refine ⟨h.ext.setCell h.old _, h.msg.put hm, turned_trans h.grown (turned_setCell _ _ _ _), ?_, h.base, h.lt, h.old⟩; rw [Below.heap_setCell _ _ _ _ (by have := h.lt; show w.heap.size ≠ g; omega)]; exact h.flaw
theorem FitS.lay {w0 w wk : World} {g : Nat} {m : Msg} {a b c x y z : Value} (h : FitS w0 w wk g m #[x, y, z]) :
 FitS w0 w (((wk.setCell ⟨w.heap.size, 0, none⟩ a).setCell ⟨w.heap.size, 1, none⟩ b).setCell ⟨w.heap.size, 2, none⟩ c) g m #[a, b, c] := by
 have hx : Ext w (((wk.setCell ⟨w.heap.size, 0, none⟩ a).setCell ⟨w.heap.size, 1, none⟩ b).setCell ⟨w.heap.size, 2, none⟩ c) → True := fun _ => trivial
 have hne : g ≠ w.heap.size := by have := h.lt; omega
 have hm : ∀ w1 : World, ∀ o v, MsgAt w1 g m → MsgAt (w1.setCell ⟨w.heap.size, o, none⟩ v) g m := fun w1 o v h1 => ⟨h1.wt, by rw [Below.heap_setCell _ _ _ _ hne]; exact h1.blk⟩
 have hg : ∀ w1 : World, ∀ o v, w.grownBy w1 (some g) → w.grownBy (w1.setCell ⟨w.heap.size, o, none⟩ v) (some g) := fun w1 o v h1 =>
  ⟨h1.os, h1.tape, h1.output, by rw [World.size_setCell]; exact h1.size, fun k hk hn => by rw [Below.heap_setCell _ _ _ _ (by show k ≠ w.heap.size; omega)]; exact h1.block k hk hn⟩
 have hs := set_blk (o := 2) (u := c) (set_blk (o := 1) (u := b) (set_blk (o := 0) (u := a) h.flaw)); exact ⟨((h.ext.setCell h.base _).setCell h.base _).setCell h.base _, hm _ _ _ (hm _ _ _ (hm _ _ _ h.msg)), hg _ _ _ (hg _ _ _ (hg _ _ _ h.grown)), hs, h.base, h.lt, h.old⟩
structure FitSay (w0 w w' : World) (e : Ending) (g : Nat) (x : Msg × Flaw) : Prop where
 is : e = .returned (.agg (flawV x.2))
 msg : MsgAt w' g x.1
 grown : w.grownBy w' (some g)
 ext : Ext w0 w'
theorem FitS.say {w0 w wk : World} {g : Nat} {m : Msg} {a b c : Int} (h : FitS w0 w wk g m #[.int .i64 a, .int .i64 b, .int .i64 c]) {e : Ending} (he : e = .returned (.agg #[.int .i64 a, .int .i64 b, .int .i64 c])) : FitSay w0 w wk e g (m, (a, b, c)) := ⟨he, h.msg, h.grown, h.ext⟩
theorem fit_calls (v : Value) (l : List Fld) (g : Nat) (m : Msg) (w0 w : World) (hX : Ext w0 w) (hg0 : w0.heap.size ≤ g) (hF : FldsIn w0 v l) (hM : MsgAt w g m) (hl : l.length ≤ 1000000) :
 Calls Tryz.prog 93 #[.pointer (some ⟨g, 0, none⟩), v] w fun e w' => FitSay w0 w w' e g (fitAll m l) := by
 obtain ⟨R, hR⟩ : ∃ R, fitAll m l = R := ⟨_, rfl⟩
 rw [hR]; have HR := Lib.hid hR; have hval : ∀ (tag : Int) (w1 : World), Ext w0 w1 → Calls Tryz.prog 90 #[v, .int .i64 tag] w1 fun e w' => e = .returned (.tuple #[.int .i64 (placeOf l tag), .string ⟨(textOf l tag).toArray⟩]) ∧ Ext w1 w' := fun tag w1 h1 => value_calls v l tag w1 hl (hF.ext h1)
 obtain ⟨A, cap, rfl, _⟩ := hF.is; have HV := Lib.hid hval; have HV18 := Lib.hid (hval 18); have HV59 := Lib.hid (hval 59); have HV530 := Lib.hid (hval 530); have HLEN := Lib.hid hl; have hst : FitS w0 w (w.alloc (.cells #[.int .i64 0, .int .i64 0, .int .i64 0] 81)) g m #[.int .i64 0, .int .i64 0, .int .i64 0] :=
  ⟨hX.alloc _, hM.ext ((Ext.refl _).alloc _), turned_ext ((Ext.refl _).alloc _) _, heap_alloc_new _ _, hX.size, hM.lt, hg0⟩
 have HS0 := Lib.hid hst; have HX0 := Lib.hid hX; clear hR hval hF hM hX hst; obtain ⟨p18, hp18⟩ : ∃ p, placeOf l 18 = p := ⟨_, rfl⟩
 obtain ⟨s18, hs18⟩ : ∃ p, textOf l 18 = p := ⟨_, rfl⟩
 obtain ⟨p59, hp59⟩ : ∃ p, placeOf l 59 = p := ⟨_, rfl⟩
 obtain ⟨s59, hs59⟩ : ∃ p, textOf l 59 = p := ⟨_, rfl⟩
 obtain ⟨p530, hp530⟩ : ∃ p, placeOf l 530 = p := ⟨_, rfl⟩
 obtain ⟨s530, hs530⟩ : ∃ p, textOf l 530 = p := ⟨_, rfl⟩
 obtain ⟨L, hL⟩ : ∃ n, l.length = n := ⟨_, rfl⟩
 rw [hp18, hs18] at HV18; rw [hp59, hs59] at HV59; rw [hp530, hs530] at HV530; rw [hL] at HLEN hl HV HV18 HV59 HV530 ⊢; have P18 := Lib.hid hp18; have S59 := Lib.hid hs59; have P530 := Lib.hid hp530; have S530 := Lib.hid hs530; have LL := Lib.hid hL; have hl0 : (0 : Int) ≤ (L : Int) := by omega
 clear hp18 hs18 hp59 hs59 hp530 hs530 hL; by_cases h18 : 0 ≤ p18
 · by_cases h59 : s59 = [48]
   · subst h59; have HRM : RowKit.Hid (R = fitRest (m.set 25 (.I 7)) l) := Lib.hid (by rw [← HR.out]; exact fitAll_life (by rw [P18.out]; exact h18) S59.out); go_enter Tryz.func93, Tryz.ntmps93
     go_wp2_with fail; refine (HV18.out _ HS0.out.ext).mono ?_; rintro e w1 ⟨rfl, hE⟩; have HS1 := Lib.hid (HS0.out.more hE); clear hE HS0; go_wp2_with fail; refine (HV59.out _ HS1.out.ext).mono ?_; rintro e w2 ⟨rfl, hE⟩; have HS2 := Lib.hid (HS1.out.more hE); clear hE HS1; have c25 := HS2.out.msg.cell (k := 25) (by decide); rw [cellAt_int HS2.out.msg.wt (k := 25) rfl] at c25; have z25 := HS2.out.msg.frozen 25; have HS3 := Lib.hid (HS2.out.life 7 (by decide)); generalize m.set 25 (.I 7) = M at HS3 HRM ⊢; clear HS2; obtain ⟨sc, hsc⟩ : ∃ s, scopeOf M = s := ⟨_, rfl⟩
     have SC := Lib.hid hsc; clear hsc; by_cases h530 : 0 ≤ p530
     · by_cases hsc : s530 = sc
       · subst hsc; have HNO : RowKit.Hid (¬ (0 ≤ placeOf l 530 ∧ textOf l 530 ≠ scopeOf M)) := Lib.hid (fun hh => hh.2 (by rw [S530.out, SC.out])); go_wp2_with fail; refine (HV530.out _ HS3.out.ext).mono ?_; rintro e w7 ⟨rfl, hE⟩; have HS7 := Lib.hid (HS3.out.more hE); clear hE HS3; have HSC := Lib.hid (scopeOf_calls g M w7 HS7.out.msg); rw [SC.out] at HSC; go_wp2_with fail; refine HSC.out.mono ?_; rintro e w8 ⟨rfl, rfl⟩; clear HSC; have hrow := HS7.out.msg.row.1; have hrs := msgV_size HS7.out.msg.wt; obtain ⟨⟨v1, v2⟩, hv⟩ : ∃ v, valid M = v := ⟨_, rfl⟩
         have HVAL := Lib.hid (valid_calls M HS7.out.msg.wt); rw [hv] at HVAL; have HVV := Lib.hid hv; clear hv; by_cases hv1 : v1 = 0
         · subst hv1; have e : R = (M, (0, 0, 0)) := by rw [HRM.out]; exact fitRest_ok HNO.out (by rw [HVV.out])
           subst e; go_wp2_with fail; refine (HVAL.out _).mono ?_; rintro e wv ⟨rfl, hE⟩; have HSV := Lib.hid (HS7.out.more hE); clear hE hrow hrs HS7; have hb1 := HSV.out.flaw; obtain ⟨hq, hz⟩ := blk_facts hb1; have q0 := hq 0; have z0 := hz 0; have q1 := hq 1; have z1 := hz 1; have q2 := hq 2; have z2 := hz 2; simp at q0 q1 q2; have HSF := Lib.hid (HSV.out.lay (a := .int .i64 0) (b := .int .i64 0) (c := .int .i64 0)); obtain ⟨rq, _⟩ := blk_facts HSF.out.flaw; have r0 := rq 0; have r1 := rq 1; have r2 := rq 2; simp at r0 r1 r2; have HRC := Lib.hid (And.intro r0 (And.intro r1 r2)); clear hb1 hq hz rq r0 r1 r2; go_wp2; obtain ⟨r0, r1, r2⟩ := HRC.out; exact bodyPost_ret (v := .agg #[.int .i64 0, .int .i64 0, .int .i64 0]) (by simp [results, Tryz.results93, go_sem, r0, r1, r2]) rfl (HSF.out.say rfl)
         · have hv1' : (v1 == 0) = false := by simpa using hv1
           obtain ⟨pv, hpv⟩ : ∃ p, placeOf l v2 = p := ⟨_, rfl⟩
           have HVP := Lib.hid (HV.out v2); rw [hpv] at HVP; have PV := Lib.hid hpv; clear hpv; by_cases hlt : pv < 0
           · have e : R = (M, (v1, (L : Int), v2)) := by rw [HRM.out, ← LL.out]; have := fitRest_far (m := M) (l := l) HNO.out (by rw [HVV.out]; exact hv1) (by rw [HVV.out]; show placeOf l v2 < 0; rw [PV.out]; exact hlt); rw [HVV.out] at this; exact this
             subst e; clear hv1; go_wp2_with fail; refine (HVAL.out _).mono ?_; rintro e wv ⟨rfl, hE⟩; have HSV := Lib.hid (HS7.out.more hE); clear hE hrow hrs HS7; go_wp2_with fail; refine (HVP.out _ HSV.out.ext).mono ?_; rintro e wp ⟨rfl, hE⟩; have HSP := Lib.hid (HSV.out.more hE); clear hE HSV; have hb1 := HSP.out.flaw; obtain ⟨hq, hz⟩ := blk_facts hb1; have q0 := hq 0; have z0 := hz 0; have q1 := hq 1; have z1 := hz 1; have q2 := hq 2; have z2 := hz 2; simp at q0 q1 q2; have HSF := Lib.hid (HSP.out.lay (a := .int .i64 v1) (b := .int .i64 (L : Int)) (c := .int .i64 v2)); obtain ⟨rq, _⟩ := blk_facts HSF.out.flaw; have r0 := rq 0; have r1 := rq 1; have r2 := rq 2; simp at r0 r1 r2; have HRC := Lib.hid (And.intro r0 (And.intro r1 r2)); clear hb1 hq hz rq r0 r1 r2; go_wp2; obtain ⟨r0, r1, r2⟩ := HRC.out; exact bodyPost_ret (v := .agg #[.int .i64 v1, .int .i64 (L : Int), .int .i64 v2]) (by simp [results, Tryz.results93, go_sem, r0, r1, r2]) rfl (HSF.out.say rfl)
           · have e : R = (M, (v1, pv, v2)) := by rw [HRM.out]; have := fitRest_at (m := M) (l := l) HNO.out (by rw [HVV.out]; exact hv1) (by rw [HVV.out]; show 0 ≤ placeOf l v2; rw [PV.out]; omega); rw [HVV.out] at this; rw [← PV.out]; exact this
             subst e; clear hv1; go_wp2_with fail; refine (HVAL.out _).mono ?_; rintro e wv ⟨rfl, hE⟩; have HSV := Lib.hid (HS7.out.more hE); clear hE hrow hrs HS7; go_wp2_with fail; refine (HVP.out _ HSV.out.ext).mono ?_; rintro e wp ⟨rfl, hE⟩; have HSP := Lib.hid (HSV.out.more hE); clear hE HSV; have hb1 := HSP.out.flaw; obtain ⟨hq, hz⟩ := blk_facts hb1; have q0 := hq 0; have z0 := hz 0; have q1 := hq 1; have z1 := hz 1; have q2 := hq 2; have z2 := hz 2; simp at q0 q1 q2; have HSF := Lib.hid (HSP.out.lay (a := .int .i64 v1) (b := .int .i64 pv) (c := .int .i64 v2)); obtain ⟨rq, _⟩ := blk_facts HSF.out.flaw; have r0 := rq 0; have r1 := rq 1; have r2 := rq 2; simp at r0 r1 r2; have HRC := Lib.hid (And.intro r0 (And.intro r1 r2)); clear hb1 hq hz rq r0 r1 r2; go_wp2; obtain ⟨r0, r1, r2⟩ := HRC.out; exact bodyPost_ret (v := .agg #[.int .i64 v1, .int .i64 pv, .int .i64 v2]) (by simp [results, Tryz.results93, go_sem, r0, r1, r2]) rfl (HSF.out.say rfl)
       · have hsc1 : (s530 == sc) = false := by simpa using hsc
         have hsc2 : (s530 != sc) = true := by simpa using hsc
         have e : R = (M, (31, p530, 530)) := by rw [HRM.out, ← P530.out]; exact fitRest_bad (by rw [P530.out]; exact h530) (by rw [S530.out, SC.out]; exact hsc)
         subst e; go_wp2_with fail; refine (HV530.out _ HS3.out.ext).mono ?_; rintro e w7 ⟨rfl, hE⟩; have HS7 := Lib.hid (HS3.out.more hE); clear hE HS3; have HSC := Lib.hid (scopeOf_calls g M w7 HS7.out.msg); rw [SC.out] at HSC; go_wp2_with fail; refine HSC.out.mono ?_; rintro e w8 ⟨rfl, rfl⟩; clear HSC; have hb1 := HS7.out.flaw; obtain ⟨hq, hz⟩ := blk_facts hb1; have q0 := hq 0; have z0 := hz 0; have q1 := hq 1; have z1 := hz 1; have q2 := hq 2; have z2 := hz 2; simp at q0 q1 q2; have HSF := Lib.hid (HS7.out.lay (a := .int .i64 31) (b := .int .i64 p530) (c := .int .i64 530)); obtain ⟨rq, _⟩ := blk_facts HSF.out.flaw; have r0 := rq 0; have r1 := rq 1; have r2 := rq 2; simp at r0 r1 r2; have HRC := Lib.hid (And.intro r0 (And.intro r1 r2)); clear hb1 hq hz rq r0 r1 r2; go_wp2; obtain ⟨r0, r1, r2⟩ := HRC.out; exact bodyPost_ret (v := .agg #[.int .i64 31, .int .i64 p530, .int .i64 530]) (by simp [results, Tryz.results93, go_sem, r0, r1, r2]) rfl (HSF.out.say rfl)
     · have h530n : p530 < 0 := by omega
       have HNO : RowKit.Hid (¬ (0 ≤ placeOf l 530 ∧ textOf l 530 ≠ scopeOf M)) := Lib.hid (fun hh => by rw [P530.out] at hh; exact h530 hh.1); go_wp2_with fail; refine (HV530.out _ HS3.out.ext).mono ?_; rintro e w7 ⟨rfl, hE⟩; have HS7 := Lib.hid (HS3.out.more hE); clear hE HS3; have hrow := HS7.out.msg.row.1; have hrs := msgV_size HS7.out.msg.wt; obtain ⟨⟨v1, v2⟩, hv⟩ : ∃ v, valid M = v := ⟨_, rfl⟩
       have HVAL := Lib.hid (valid_calls M HS7.out.msg.wt); rw [hv] at HVAL; have HVV := Lib.hid hv; clear hv; by_cases hv1 : v1 = 0
       · subst hv1; have e : R = (M, (0, 0, 0)) := by rw [HRM.out]; exact fitRest_ok HNO.out (by rw [HVV.out])
         subst e; go_wp2_with fail; refine (HVAL.out _).mono ?_; rintro e wv ⟨rfl, hE⟩; have HSV := Lib.hid (HS7.out.more hE); clear hE hrow hrs HS7; have hb1 := HSV.out.flaw; obtain ⟨hq, hz⟩ := blk_facts hb1; have q0 := hq 0; have z0 := hz 0; have q1 := hq 1; have z1 := hz 1; have q2 := hq 2; have z2 := hz 2; simp at q0 q1 q2; have HSF := Lib.hid (HSV.out.lay (a := .int .i64 0) (b := .int .i64 0) (c := .int .i64 0)); obtain ⟨rq, _⟩ := blk_facts HSF.out.flaw; have r0 := rq 0; have r1 := rq 1; have r2 := rq 2; simp at r0 r1 r2; have HRC := Lib.hid (And.intro r0 (And.intro r1 r2)); clear hb1 hq hz rq r0 r1 r2; go_wp2; obtain ⟨r0, r1, r2⟩ := HRC.out; exact bodyPost_ret (v := .agg #[.int .i64 0, .int .i64 0, .int .i64 0]) (by simp [results, Tryz.results93, go_sem, r0, r1, r2]) rfl (HSF.out.say rfl)
       · have hv1' : (v1 == 0) = false := by simpa using hv1
         obtain ⟨pv, hpv⟩ : ∃ p, placeOf l v2 = p := ⟨_, rfl⟩
         have HVP := Lib.hid (HV.out v2); rw [hpv] at HVP; have PV := Lib.hid hpv; clear hpv; by_cases hlt : pv < 0
         · have e : R = (M, (v1, (L : Int), v2)) := by rw [HRM.out, ← LL.out]; have := fitRest_far (m := M) (l := l) HNO.out (by rw [HVV.out]; exact hv1) (by rw [HVV.out]; show placeOf l v2 < 0; rw [PV.out]; exact hlt); rw [HVV.out] at this; exact this
           subst e; clear hv1; go_wp2_with fail; refine (HVAL.out _).mono ?_; rintro e wv ⟨rfl, hE⟩; have HSV := Lib.hid (HS7.out.more hE); clear hE hrow hrs HS7; go_wp2_with fail; refine (HVP.out _ HSV.out.ext).mono ?_; rintro e wp ⟨rfl, hE⟩; have HSP := Lib.hid (HSV.out.more hE); clear hE HSV; have hb1 := HSP.out.flaw; obtain ⟨hq, hz⟩ := blk_facts hb1; have q0 := hq 0; have z0 := hz 0; have q1 := hq 1; have z1 := hz 1; have q2 := hq 2; have z2 := hz 2; simp at q0 q1 q2; have HSF := Lib.hid (HSP.out.lay (a := .int .i64 v1) (b := .int .i64 (L : Int)) (c := .int .i64 v2)); obtain ⟨rq, _⟩ := blk_facts HSF.out.flaw; have r0 := rq 0; have r1 := rq 1; have r2 := rq 2; simp at r0 r1 r2; have HRC := Lib.hid (And.intro r0 (And.intro r1 r2)); clear hb1 hq hz rq r0 r1 r2; go_wp2; obtain ⟨r0, r1, r2⟩ := HRC.out; exact bodyPost_ret (v := .agg #[.int .i64 v1, .int .i64 (L : Int), .int .i64 v2]) (by simp [results, Tryz.results93, go_sem, r0, r1, r2]) rfl (HSF.out.say rfl)
         · have e : R = (M, (v1, pv, v2)) := by rw [HRM.out]; have := fitRest_at (m := M) (l := l) HNO.out (by rw [HVV.out]; exact hv1) (by rw [HVV.out]; show 0 ≤ placeOf l v2; rw [PV.out]; omega); rw [HVV.out] at this; rw [← PV.out]; exact this
           subst e; clear hv1; go_wp2_with fail; refine (HVAL.out _).mono ?_; rintro e wv ⟨rfl, hE⟩; have HSV := Lib.hid (HS7.out.more hE); clear hE hrow hrs HS7; go_wp2_with fail; refine (HVP.out _ HSV.out.ext).mono ?_; rintro e wp ⟨rfl, hE⟩; have HSP := Lib.hid (HSV.out.more hE); clear hE HSV; have hb1 := HSP.out.flaw; obtain ⟨hq, hz⟩ := blk_facts hb1; have q0 := hq 0; have z0 := hz 0; have q1 := hq 1; have z1 := hz 1; have q2 := hq 2; have z2 := hz 2; simp at q0 q1 q2; have HSF := Lib.hid (HSP.out.lay (a := .int .i64 v1) (b := .int .i64 pv) (c := .int .i64 v2)); obtain ⟨rq, _⟩ := blk_facts HSF.out.flaw; have r0 := rq 0; have r1 := rq 1; have r2 := rq 2; simp at r0 r1 r2; have HRC := Lib.hid (And.intro r0 (And.intro r1 r2)); clear hb1 hq hz rq r0 r1 r2; go_wp2; obtain ⟨r0, r1, r2⟩ := HRC.out; exact bodyPost_ret (v := .agg #[.int .i64 v1, .int .i64 pv, .int .i64 v2]) (by simp [results, Tryz.results93, go_sem, r0, r1, r2]) rfl (HSF.out.say rfl)
   · have h59a : (s59 == [48]) = false := by simpa using h59
     have h59b : (s59 != [48]) = true := by simpa using h59
     have e : R = (m, (31, p18, 18)) := by rw [← HR.out, ← P18.out]; exact fitAll_bad (by rw [P18.out]; exact h18) (by rw [S59.out]; exact h59)
     subst e; go_enter Tryz.func93, Tryz.ntmps93
     go_wp2_with fail; refine (HV18.out _ HS0.out.ext).mono ?_; rintro e w1 ⟨rfl, hE⟩; have HS1 := Lib.hid (HS0.out.more hE); clear hE HS0; go_wp2_with fail; refine (HV59.out _ HS1.out.ext).mono ?_; rintro e w2 ⟨rfl, hE⟩; have HS2 := Lib.hid (HS1.out.more hE); clear hE HS1; have hb1 := HS2.out.flaw; obtain ⟨hq, hz⟩ := blk_facts hb1; have q0 := hq 0; have z0 := hz 0; have q1 := hq 1; have z1 := hz 1; have q2 := hq 2; have z2 := hz 2; simp at q0 q1 q2; have HSF := Lib.hid (HS2.out.lay (a := .int .i64 31) (b := .int .i64 p18) (c := .int .i64 18)); obtain ⟨rq, _⟩ := blk_facts HSF.out.flaw; have r0 := rq 0; have r1 := rq 1; have r2 := rq 2; simp at r0 r1 r2; have HRC := Lib.hid (And.intro r0 (And.intro r1 r2)); clear hb1 hq hz rq r0 r1 r2; go_wp2; obtain ⟨r0, r1, r2⟩ := HRC.out; exact bodyPost_ret (v := .agg #[.int .i64 31, .int .i64 p18, .int .i64 18]) (by simp [results, Tryz.results93, go_sem, r0, r1, r2]) rfl (HSF.out.say rfl)
 · have h18n : p18 < 0 := by omega
   have HRM : RowKit.Hid (R = fitRest m l) := Lib.hid (by rw [← HR.out]; exact fitAll_none (by rw [P18.out]; exact h18n)); go_enter Tryz.func93, Tryz.ntmps93
   go_wp2_with fail; refine (HV18.out _ HS0.out.ext).mono ?_; rintro e w1 ⟨rfl, hE⟩; have HS1 := Lib.hid (HS0.out.more hE); clear hE HS0; obtain ⟨sc, hsc⟩ : ∃ s, scopeOf m = s := ⟨_, rfl⟩
   have SC := Lib.hid hsc; clear hsc; by_cases h530 : 0 ≤ p530
   · by_cases hsc : s530 = sc
     · subst hsc; have HNO : RowKit.Hid (¬ (0 ≤ placeOf l 530 ∧ textOf l 530 ≠ scopeOf m)) := Lib.hid (fun hh => hh.2 (by rw [S530.out, SC.out])); go_wp2_with fail; refine (HV530.out _ HS1.out.ext).mono ?_; rintro e w7 ⟨rfl, hE⟩; have HS7 := Lib.hid (HS1.out.more hE); clear hE HS1; have HSC := Lib.hid (scopeOf_calls g m w7 HS7.out.msg); rw [SC.out] at HSC; go_wp2_with fail; refine HSC.out.mono ?_; rintro e w8 ⟨rfl, rfl⟩; clear HSC; have hrow := HS7.out.msg.row.1; have hrs := msgV_size HS7.out.msg.wt; obtain ⟨⟨v1, v2⟩, hv⟩ : ∃ v, valid m = v := ⟨_, rfl⟩
       have HVAL := Lib.hid (valid_calls m HS7.out.msg.wt); rw [hv] at HVAL; have HVV := Lib.hid hv; clear hv; by_cases hv1 : v1 = 0
       · subst hv1; have e : R = (m, (0, 0, 0)) := by rw [HRM.out]; exact fitRest_ok HNO.out (by rw [HVV.out])
         subst e; go_wp2_with fail; refine (HVAL.out _).mono ?_; rintro e wv ⟨rfl, hE⟩; have HSV := Lib.hid (HS7.out.more hE); clear hE hrow hrs HS7; have hb1 := HSV.out.flaw; obtain ⟨hq, hz⟩ := blk_facts hb1; have q0 := hq 0; have z0 := hz 0; have q1 := hq 1; have z1 := hz 1; have q2 := hq 2; have z2 := hz 2; simp at q0 q1 q2; have HSF := Lib.hid (HSV.out.lay (a := .int .i64 0) (b := .int .i64 0) (c := .int .i64 0)); obtain ⟨rq, _⟩ := blk_facts HSF.out.flaw; have r0 := rq 0; have r1 := rq 1; have r2 := rq 2; simp at r0 r1 r2; have HRC := Lib.hid (And.intro r0 (And.intro r1 r2)); clear hb1 hq hz rq r0 r1 r2; go_wp2; obtain ⟨r0, r1, r2⟩ := HRC.out; exact bodyPost_ret (v := .agg #[.int .i64 0, .int .i64 0, .int .i64 0]) (by simp [results, Tryz.results93, go_sem, r0, r1, r2]) rfl (HSF.out.say rfl)
       · have hv1' : (v1 == 0) = false := by simpa using hv1
         obtain ⟨pv, hpv⟩ : ∃ p, placeOf l v2 = p := ⟨_, rfl⟩
         have HVP := Lib.hid (HV.out v2); rw [hpv] at HVP; have PV := Lib.hid hpv; clear hpv; by_cases hlt : pv < 0
         · have e : R = (m, (v1, (L : Int), v2)) := by rw [HRM.out, ← LL.out]; have := fitRest_far (m := m) (l := l) HNO.out (by rw [HVV.out]; exact hv1) (by rw [HVV.out]; show placeOf l v2 < 0; rw [PV.out]; exact hlt); rw [HVV.out] at this; exact this
           subst e; clear hv1; go_wp2_with fail; refine (HVAL.out _).mono ?_; rintro e wv ⟨rfl, hE⟩; have HSV := Lib.hid (HS7.out.more hE); clear hE hrow hrs HS7; go_wp2_with fail; refine (HVP.out _ HSV.out.ext).mono ?_; rintro e wp ⟨rfl, hE⟩; have HSP := Lib.hid (HSV.out.more hE); clear hE HSV; have hb1 := HSP.out.flaw; obtain ⟨hq, hz⟩ := blk_facts hb1; have q0 := hq 0; have z0 := hz 0; have q1 := hq 1; have z1 := hz 1; have q2 := hq 2; have z2 := hz 2; simp at q0 q1 q2; have HSF := Lib.hid (HSP.out.lay (a := .int .i64 v1) (b := .int .i64 (L : Int)) (c := .int .i64 v2)); obtain ⟨rq, _⟩ := blk_facts HSF.out.flaw; have r0 := rq 0; have r1 := rq 1; have r2 := rq 2; simp at r0 r1 r2; have HRC := Lib.hid (And.intro r0 (And.intro r1 r2)); clear hb1 hq hz rq r0 r1 r2; go_wp2; obtain ⟨r0, r1, r2⟩ := HRC.out; exact bodyPost_ret (v := .agg #[.int .i64 v1, .int .i64 (L : Int), .int .i64 v2]) (by simp [results, Tryz.results93, go_sem, r0, r1, r2]) rfl (HSF.out.say rfl)
         · have e : R = (m, (v1, pv, v2)) := by rw [HRM.out]; have := fitRest_at (m := m) (l := l) HNO.out (by rw [HVV.out]; exact hv1) (by rw [HVV.out]; show 0 ≤ placeOf l v2; rw [PV.out]; omega); rw [HVV.out] at this; rw [← PV.out]; exact this
           subst e; clear hv1; go_wp2_with fail; refine (HVAL.out _).mono ?_; rintro e wv ⟨rfl, hE⟩; have HSV := Lib.hid (HS7.out.more hE); clear hE hrow hrs HS7; go_wp2_with fail; refine (HVP.out _ HSV.out.ext).mono ?_; rintro e wp ⟨rfl, hE⟩; have HSP := Lib.hid (HSV.out.more hE); clear hE HSV; have hb1 := HSP.out.flaw; obtain ⟨hq, hz⟩ := blk_facts hb1; have q0 := hq 0; have z0 := hz 0; have q1 := hq 1; have z1 := hz 1; have q2 := hq 2; have z2 := hz 2; simp at q0 q1 q2; have HSF := Lib.hid (HSP.out.lay (a := .int .i64 v1) (b := .int .i64 pv) (c := .int .i64 v2)); obtain ⟨rq, _⟩ := blk_facts HSF.out.flaw; have r0 := rq 0; have r1 := rq 1; have r2 := rq 2; simp at r0 r1 r2; have HRC := Lib.hid (And.intro r0 (And.intro r1 r2)); clear hb1 hq hz rq r0 r1 r2; go_wp2; obtain ⟨r0, r1, r2⟩ := HRC.out; exact bodyPost_ret (v := .agg #[.int .i64 v1, .int .i64 pv, .int .i64 v2]) (by simp [results, Tryz.results93, go_sem, r0, r1, r2]) rfl (HSF.out.say rfl)
     · have hsc1 : (s530 == sc) = false := by simpa using hsc
       have hsc2 : (s530 != sc) = true := by simpa using hsc
       have e : R = (m, (31, p530, 530)) := by rw [HRM.out, ← P530.out]; exact fitRest_bad (by rw [P530.out]; exact h530) (by rw [S530.out, SC.out]; exact hsc)
       subst e; go_wp2_with fail; refine (HV530.out _ HS1.out.ext).mono ?_; rintro e w7 ⟨rfl, hE⟩; have HS7 := Lib.hid (HS1.out.more hE); clear hE HS1; have HSC := Lib.hid (scopeOf_calls g m w7 HS7.out.msg); rw [SC.out] at HSC; go_wp2_with fail; refine HSC.out.mono ?_; rintro e w8 ⟨rfl, rfl⟩; clear HSC; have hb1 := HS7.out.flaw; obtain ⟨hq, hz⟩ := blk_facts hb1; have q0 := hq 0; have z0 := hz 0; have q1 := hq 1; have z1 := hz 1; have q2 := hq 2; have z2 := hz 2; simp at q0 q1 q2; have HSF := Lib.hid (HS7.out.lay (a := .int .i64 31) (b := .int .i64 p530) (c := .int .i64 530)); obtain ⟨rq, _⟩ := blk_facts HSF.out.flaw; have r0 := rq 0; have r1 := rq 1; have r2 := rq 2; simp at r0 r1 r2; have HRC := Lib.hid (And.intro r0 (And.intro r1 r2)); clear hb1 hq hz rq r0 r1 r2; go_wp2; obtain ⟨r0, r1, r2⟩ := HRC.out; exact bodyPost_ret (v := .agg #[.int .i64 31, .int .i64 p530, .int .i64 530]) (by simp [results, Tryz.results93, go_sem, r0, r1, r2]) rfl (HSF.out.say rfl)
   · have h530n : p530 < 0 := by omega
     have HNO : RowKit.Hid (¬ (0 ≤ placeOf l 530 ∧ textOf l 530 ≠ scopeOf m)) := Lib.hid (fun hh => by rw [P530.out] at hh; exact h530 hh.1); go_wp2_with fail; refine (HV530.out _ HS1.out.ext).mono ?_; rintro e w7 ⟨rfl, hE⟩; have HS7 := Lib.hid (HS1.out.more hE); clear hE HS1; have hrow := HS7.out.msg.row.1; have hrs := msgV_size HS7.out.msg.wt; obtain ⟨⟨v1, v2⟩, hv⟩ : ∃ v, valid m = v := ⟨_, rfl⟩
     have HVAL := Lib.hid (valid_calls m HS7.out.msg.wt); rw [hv] at HVAL; have HVV := Lib.hid hv; clear hv; by_cases hv1 : v1 = 0
     · subst hv1; have e : R = (m, (0, 0, 0)) := by rw [HRM.out]; exact fitRest_ok HNO.out (by rw [HVV.out])
       subst e; go_wp2_with fail; refine (HVAL.out _).mono ?_; rintro e wv ⟨rfl, hE⟩; have HSV := Lib.hid (HS7.out.more hE); clear hE hrow hrs HS7; have hb1 := HSV.out.flaw; obtain ⟨hq, hz⟩ := blk_facts hb1; have q0 := hq 0; have z0 := hz 0; have q1 := hq 1; have z1 := hz 1; have q2 := hq 2; have z2 := hz 2; simp at q0 q1 q2; have HSF := Lib.hid (HSV.out.lay (a := .int .i64 0) (b := .int .i64 0) (c := .int .i64 0)); obtain ⟨rq, _⟩ := blk_facts HSF.out.flaw; have r0 := rq 0; have r1 := rq 1; have r2 := rq 2; simp at r0 r1 r2; have HRC := Lib.hid (And.intro r0 (And.intro r1 r2)); clear hb1 hq hz rq r0 r1 r2; go_wp2; obtain ⟨r0, r1, r2⟩ := HRC.out; exact bodyPost_ret (v := .agg #[.int .i64 0, .int .i64 0, .int .i64 0]) (by simp [results, Tryz.results93, go_sem, r0, r1, r2]) rfl (HSF.out.say rfl)
     · have hv1' : (v1 == 0) = false := by simpa using hv1
       obtain ⟨pv, hpv⟩ : ∃ p, placeOf l v2 = p := ⟨_, rfl⟩
       have HVP := Lib.hid (HV.out v2); rw [hpv] at HVP; have PV := Lib.hid hpv; clear hpv; by_cases hlt : pv < 0
       · have e : R = (m, (v1, (L : Int), v2)) := by rw [HRM.out, ← LL.out]; have := fitRest_far (m := m) (l := l) HNO.out (by rw [HVV.out]; exact hv1) (by rw [HVV.out]; show placeOf l v2 < 0; rw [PV.out]; exact hlt); rw [HVV.out] at this; exact this
         subst e; clear hv1; go_wp2_with fail; refine (HVAL.out _).mono ?_; rintro e wv ⟨rfl, hE⟩; have HSV := Lib.hid (HS7.out.more hE); clear hE hrow hrs HS7; go_wp2_with fail; refine (HVP.out _ HSV.out.ext).mono ?_; rintro e wp ⟨rfl, hE⟩; have HSP := Lib.hid (HSV.out.more hE); clear hE HSV; have hb1 := HSP.out.flaw; obtain ⟨hq, hz⟩ := blk_facts hb1; have q0 := hq 0; have z0 := hz 0; have q1 := hq 1; have z1 := hz 1; have q2 := hq 2; have z2 := hz 2; simp at q0 q1 q2; have HSF := Lib.hid (HSP.out.lay (a := .int .i64 v1) (b := .int .i64 (L : Int)) (c := .int .i64 v2)); obtain ⟨rq, _⟩ := blk_facts HSF.out.flaw; have r0 := rq 0; have r1 := rq 1; have r2 := rq 2; simp at r0 r1 r2; have HRC := Lib.hid (And.intro r0 (And.intro r1 r2)); clear hb1 hq hz rq r0 r1 r2; go_wp2; obtain ⟨r0, r1, r2⟩ := HRC.out; exact bodyPost_ret (v := .agg #[.int .i64 v1, .int .i64 (L : Int), .int .i64 v2]) (by simp [results, Tryz.results93, go_sem, r0, r1, r2]) rfl (HSF.out.say rfl)
       · have e : R = (m, (v1, pv, v2)) := by rw [HRM.out]; have := fitRest_at (m := m) (l := l) HNO.out (by rw [HVV.out]; exact hv1) (by rw [HVV.out]; show 0 ≤ placeOf l v2; rw [PV.out]; omega); rw [HVV.out] at this; rw [← PV.out]; exact this
         subst e; clear hv1; go_wp2_with fail; refine (HVAL.out _).mono ?_; rintro e wv ⟨rfl, hE⟩; have HSV := Lib.hid (HS7.out.more hE); clear hE hrow hrs HS7; go_wp2_with fail; refine (HVP.out _ HSV.out.ext).mono ?_; rintro e wp ⟨rfl, hE⟩; have HSP := Lib.hid (HSV.out.more hE); clear hE HSV; have hb1 := HSP.out.flaw; obtain ⟨hq, hz⟩ := blk_facts hb1; have q0 := hq 0; have z0 := hz 0; have q1 := hq 1; have z1 := hz 1; have q2 := hq 2; have z2 := hz 2; simp at q0 q1 q2; have HSF := Lib.hid (HSP.out.lay (a := .int .i64 v1) (b := .int .i64 pv) (c := .int .i64 v2)); obtain ⟨rq, _⟩ := blk_facts HSF.out.flaw; have r0 := rq 0; have r1 := rq 1; have r2 := rq 2; simp at r0 r1 r2; have HRC := Lib.hid (And.intro r0 (And.intro r1 r2)); clear hb1 hq hz rq r0 r1 r2; go_wp2; obtain ⟨r0, r1, r2⟩ := HRC.out; exact bodyPost_ret (v := .agg #[.int .i64 v1, .int .i64 pv, .int .i64 v2]) (by simp [results, Tryz.results93, go_sem, r0, r1, r2]) rfl (HSF.out.say rfl)
end
section
open Go Go.RowKit
set_option maxHeartbeats 3200000
theorem gives_callT {dst : Option Tmp} {t : Tmp} {l : List Operand} {ats : Array TypeId} {ty : TypeId} {pos : String} {after : Array Edge} {gd : Option (Nat × Bool)} {ρ : Operand → Value} {w : World}
 {R : Value → World → Prop} {fid : Nat} {caps : Array Value} (he : Enters fid) (hf : ρ (.tmp t) = .func (.func fid) #[] caps)
 (h : Calls Tryz.prog fid ((l.map ρ).toArray ++ caps) w fun e w'' => ∃ v, e = .returned v ∧ R v w'') :
 Gives Tryz.prog { dst, op := .call { callee := .value (.tmp t), args := l.toArray, argTypes := ats }, type := ty, pos, after, guard := gd } ρ w R := by
 unfold Gives; have e : (execOp ρ { dst, op := .call { callee := .value (.tmp t), args := l.toArray, argTypes := ats }, type := ty, pos, after, guard := gd }).run Tryz.prog w = .ok (.enter fid ((l.map ρ).toArray ++ caps)) w := by
  have he2 : ∀ args w, (callFunc fid args).run Tryz.prog w = .ok (.enter fid args) w := he; simp only [execOp, resolve, hf]; rw [List.map_toArray]; simp [he2, Deferred.ofValue, invoke]
 rw [e]; exact h
structure TurnR (g : Nat) (c : Obj) (w w' : World) : Prop where
 os : w'.os = w.os
 tape : w'.tape = w.tape
 output : w'.output = w.output
 size : w.heap.size ≤ w'.heap.size
 block : ∀ k, k < w.heap.size → k ≠ g → w'.heap[k]? = w.heap[k]?
 one : g < w.heap.size → w'.heap[g]? = w.heap[g]? ∨ w'.heap[g]? = some c
def Turn (g : Nat) (c : Obj) : Rl where
 R := TurnR g c
 refl w := ⟨rfl, rfl, rfl, Nat.le_refl _, fun _ _ _ => rfl, fun _ => Or.inl rfl⟩
 trans a b := ⟨b.os.trans a.os, b.tape.trans a.tape, b.output.trans a.output, Nat.le_trans a.size b.size, fun k h1 h2 => (b.block k (Nat.lt_of_lt_of_le h1 a.size) h2).trans (a.block k h1 h2),
  fun hg => by
   rcases b.one (Nat.lt_of_lt_of_le hg a.size) with h | h
   · rw [h]; exact a.one hg
   · exact Or.inr h⟩
 drew w := ⟨rfl, rfl, rfl, Nat.le_refl _, fun _ _ _ => rfl, fun _ => Or.inl rfl⟩
theorem TurnR.ofExt {g : Nat} {c : Obj} {w w' : World} (h : Ext w w') : TurnR g c w w' := ⟨h.os, h.tape, h.output, h.size, fun k hk _ => h.block k hk, fun hg => Or.inl (h.block g hg)⟩
theorem TurnR.keep {g : Nat} {c : Obj} {w w' : World} (h : TurnR g c w w') : Keep (fun k => k = g) w w' := ⟨h.os, h.tape, h.output, h.size, fun k hk hn => h.block k hk hn⟩
theorem TurnR.ofGrown {g : Nat} {c : Obj} {w w' : World} (h : w.grownBy w' (some g)) (hc : w'.heap[g]? = some c) : TurnR g c w w' :=
 ⟨h.os, h.tape, h.output, h.size, fun k hk hn => h.block k hk (fun e => hn (by cases e; rfl)), fun _ => Or.inr hc⟩
theorem TurnR.cell {g : Nat} {c : Obj} {w w' : World} (hr : TurnR g c w w') {b o : Nat} {v : Value} (hc : w.cell? ⟨b, o, none⟩ = some v) (h1 : b ≠ g) : w'.cell? ⟨b, o, none⟩ = some v :=
 (World.cell?_of_block (a := ⟨b, o, none⟩) (hr.block b (lt_of_cell hc) h1)).trans hc
theorem TurnR.ext {W w w' : World} {g : Nat} {c : Obj} (h : TurnR g c w w') (hE : Ext W w) (hg : W.heap.size ≤ g) : Ext W w' :=
 ⟨h.os.trans hE.os, h.tape.trans hE.tape, h.output.trans hE.output, Nat.le_trans hE.size h.size, fun k hk => (h.block k (Nat.lt_of_lt_of_le hk hE.size) (by omega)).trans (hE.block k hk)⟩
def Rl.Post.turned {g : Nat} {c : Obj} (x : Value) : (Turn g c).Post := ⟨fun v w => v = x ∧ w.heap[g]? = some c ∧ g < w.heap.size, fun v w w' ⟨h1, h2, h3⟩ hr => ⟨h1, (hr.one h3).elim (fun h => h.trans h2) id, Nat.lt_of_lt_of_le h3 hr.size⟩⟩
def Rl.Post.msg {g : Nat} {m : Msg} (x : Value) : (Turn g (.cells (msgV m) 23)).Post := ⟨fun v w => v = x ∧ MsgAt w g m, fun v w w' ⟨h1, h2⟩ hr => ⟨h1, h2.wt, (hr.one h2.lt).elim (fun h => h.trans h2.blk) id⟩⟩
def Rl.Post.form {g : Nat} {c : Obj} (num : Int) (f : Form) (k : Nat) : (Turn g c).Post := ⟨fun v w => IsForm (fun k => k = g) w v num f k, fun v w w' h hr => h.after fun w2 h2 => by
 have hk := hr.keep; exact ⟨h2.os.trans hk.os, h2.tape.trans hk.tape, h2.output.trans hk.output, Nat.le_trans hk.size h2.size, fun k h3 h4 => (h2.block k (Nat.lt_of_lt_of_le h3 hk.size) h4).trans (hk.block k h3 h4)⟩⟩
def Rl.Post.take {g : Nat} {c : Obj} (f : Form) (k : Nat) : (Turn g c).Post := ⟨fun v w => FnTake (fun k => k = g) w v f k, fun v w w' h hr => by
 obtain ⟨fid, caps, e, h1, h2⟩ := h; have hk := hr.keep; refine ⟨fid, caps, e, h1, fun w2 h3 => h2 w2 ?_⟩; exact ⟨h3.os.trans hk.os, h3.tape.trans hk.tape, h3.output.trans hk.output, Nat.le_trans hk.size h3.size, fun k h5 h4 => (h3.block k (Nat.lt_of_lt_of_le h5 hk.size) h4).trans (hk.block k h5 h4)⟩⟩
theorem form35_calls (g : Nat) (w : World) (hg : g < w.heap.size) : Calls Tryz.prog 78 #[.int .i64 35] w fun e w' => Returns e (fun v => IsForm (fun k => k = g) w' v 35 (formAt 35) (cellOf 35)) ∧ Ext w w' :=
 main_forms (35, .coded 1 typesL, 0) (by decide +kernel) (fun k => k = g) w (fun k hk => by rw [hk]; exact hg)
theorem set_set {m : Msg} {k : Nat} {c : Cell} : (m.set k c).set k c = m.set k c := by simp
theorem fitsIn_again (s : Slot) (m : Msg) (v : List UInt8) : (fitsIn s ((fitsIn s m v).getD m) v).isSome = (fitsIn s m v).isSome ∧ (fitsIn s ((fitsIn s m v).getD m) v).getD ((fitsIn s m v).getD m) = (fitsIn s m v).getD m := by
 obtain ⟨t, n, mu⟩ := s; unfold fitsIn; dsimp only; split
 · split <;> simp
 · split
   · split <;> simp
   · split
     · split <;> simp
     · cases (formAt n).read v with
       | none => simp
       | some c => simp
def readOn (all : List Slot) (l : List Fld) (X : Msg × Flaw) : Msg × Flaw :=
 if X.2.1 != 0 then X else match lacks all l with
  | some s => (X.1, (50, (l.length : Int), s.tag))
  | none => fitAll X.1 l
theorem readAll_bad {t0 : Int} {s0 : List UInt8} {r : List Fld} (h : t0 ≠ 35) : readAll ((t0, s0) :: r) = (noMsg, (50, 0, 35)) := by
 unfold readAll; have : ((t0, s0).1 != 35) = true := by simpa using h
 simp only [this, if_true]
theorem readAll_kind {s0 : List UInt8} {r : List Fld} (h : (formAt 35).read s0 = none) : readAll ((35, s0) :: r) = (noMsg, (30, 0, 35)) := by
 unfold readAll; have : (((35 : Int), s0).1 != 35) = false := rfl; simp only [this, h, Bool.false_eq_true, if_false]
theorem readAll_go {s0 : List UInt8} {r : List Fld} {c : Cell} (h : (formAt 35).read s0 = some c) : readAll ((35, s0) :: r) = readOn (slotsOf (gi (noMsg.set 0 c) 0)) ((35, s0) :: r) (readFrom (slotsOf (gi (noMsg.set 0 c) 0)) ((35, s0) :: r) 1 (noMsg.set 0 c) r) := by
 conv => lhs; unfold readAll
 have : (((35 : Int), s0).1 != 35) = false := rfl; simp only [this, h, Bool.false_eq_true, if_false]; rfl
theorem rf_unknown {all : List Slot} {l rest : List Fld} {k : Nat} {M : Msg} {t : Int} {s : List UInt8} (h : findSlot all t = none) (hk : knownTag t = false) : readFrom all l k M ((t, s) :: rest) = (M, (52, (k : Int), t)) := by
 unfold readFrom; simp only [h, hk, Bool.not_false, if_true]
theorem rf_foreign {all : List Slot} {l rest : List Fld} {k : Nat} {M : Msg} {t : Int} {s : List UInt8} (h : findSlot all t = none) (hk : knownTag t = true) : readFrom all l k M ((t, s) :: rest) = (M, (53, (k : Int), t)) := by
 unfold readFrom; simp only [h, hk, Bool.not_true, Bool.false_eq_true, if_false]
theorem rf_twice {all : List Slot} {l rest : List Fld} {k : Nat} {M : Msg} {t : Int} {s : List UInt8} {sl : Slot} (h : findSlot all t = some sl) (hk : placeOf l t < (k : Int)) : readFrom all l k M ((t, s) :: rest) = (M, (51, (k : Int), t)) := by
 unfold readFrom; simp only [h, hk, if_true]
theorem rf_bad {all : List Slot} {l rest : List Fld} {k : Nat} {M : Msg} {t : Int} {s : List UInt8} {sl : Slot} (h : findSlot all t = some sl) (hk : ¬ placeOf l t < (k : Int)) (hf : fitsIn sl M s = none) : readFrom all l k M ((t, s) :: rest) = (M, (31, (k : Int), t)) := by
 unfold readFrom; simp only [h, hk, if_false, hf]
theorem rf_go {all : List Slot} {l rest : List Fld} {k : Nat} {M M' : Msg} {t : Int} {s : List UInt8} {sl : Slot} (h : findSlot all t = some sl) (hk : ¬ placeOf l t < (k : Int)) (hf : fitsIn sl M s = some M') : readFrom all l k M ((t, s) :: rest) = readFrom all l (k + 1) M' rest := by
 conv => lhs; unfold readFrom
 simp only [h, hk, if_false, hf]
theorem RetsR.cells {g h : Nat} {c d : Obj} {w w' : World} (hr : RetsR g h c d w w') : True := trivial
def Rl.Post.laid1 {g h : Nat} {c d : Obj} : (Rets g h c d).Post := ⟨fun _ w => w.heap[g]? = some c, fun v w w' h1 hr => hr.one.elim (fun h => h.trans h1) id⟩
def Rl.Post.laid2 {g h : Nat} {c d : Obj} : (Rets g h c d).Post := ⟨fun _ w => w.heap[h]? = some d, fun v w w' h1 hr => hr.two.elim (fun h => h.trans h1) id⟩
def zeroFlaw : Array Value := #[.int .i64 0, .int .i64 0, .int .i64 0]
theorem gives_lay1 {dst : Option Tmp} {x y : Operand} {tyo : TypeId} {pos : String} {after : Array Edge} {gd : Option (Nat × Bool)} {ρ : Operand → Value} {g h : Nat} {M : Msg} {d : Obj} {w0 w : World} (hr : RetsR g h (.cells (msgV M) 23) d w0 w)
 (hx : ρ x = .pointer (some ⟨g, 0, none⟩)) (hy : ρ y = .agg (msgV M)) (hM : WT M) (hg : w0.heap[g]? = some (.cells (msgV noMsg) 23)) (hne : g ≠ h) :
 Gives Tryz.prog { dst, op := .store 23 x y, type := tyo, pos, after, guard := gd } ρ w (fun v w' => RetsR g h (.cells (msgV M) 23) d w w' ∧ w'.heap[g]? = some (.cells (msgV M) 23)) := by
 have hw : w.heap[g]? = some (.cells (msgV noMsg) 23) ∨ w.heap[g]? = some (.cells (msgV M) 23) := hr.one.imp (fun h => h.trans hg) id; have hs := msgV_size hM; have hs0 : (msgV noMsg).size = 42 := by decide
 have key : ∀ old : Array Value, old.size = 42 → w.heap[g]? = some (.cells old 23) → Gives Tryz.prog { dst, op := .store 23 x y, type := tyo, pos, after, guard := gd } ρ w (fun v w' => RetsR g h (.cells (msgV M) 23) d w w' ∧ w'.heap[g]? = some (.cells (msgV M) 23)) := by
  intro old ho hb; refine gives_store g (msgV M) old 23 hx hy hb (by rw [hs]; kernel_rfl) (by rw [ho, hs]) ?_ ⟨⟨rfl, rfl, rfl, setRow_size _ _ _, fun k h1 h2 => heap_setRow_ne h1, Or.inr (heap_setRow hb), Or.inl (heap_setRow_ne hne.symm)⟩, heap_setRow hb⟩; unfold msgV; rw [List.all_toArray, List.all_map, List.all_eq_true]; intro c hc; cases c <;> rfl
 rcases hw with hb | hb
 · exact key _ hs0 hb
 · exact key _ hs hb
theorem gives_lay2 {dst : Option Tmp} {x y : Operand} {tyo : TypeId} {pos : String} {after : Array Edge} {gd : Option (Nat × Bool)} {ρ : Operand → Value} {g h : Nat} {f : Flaw} {c : Obj} {w0 w : World} (hr : RetsR g h c (.cells (flawV f) 81) w0 w)
 (hx : ρ x = .pointer (some ⟨h, 0, none⟩)) (hy : ρ y = .agg (flawV f)) (hg : w0.heap[h]? = some (.cells zeroFlaw 81)) (hne : g ≠ h) :
 Gives Tryz.prog { dst, op := .store 81 x y, type := tyo, pos, after, guard := gd } ρ w (fun v w' => RetsR g h c (.cells (flawV f) 81) w w' ∧ w'.heap[h]? = some (.cells (flawV f) 81)) := by
 have hw : w.heap[h]? = some (.cells zeroFlaw 81) ∨ w.heap[h]? = some (.cells (flawV f) 81) := hr.two.imp (fun h => h.trans hg) id; have key : ∀ old : Array Value, old.size = 3 → w.heap[h]? = some (.cells old 81) → Gives Tryz.prog { dst, op := .store 81 x y, type := tyo, pos, after, guard := gd } ρ w (fun v w' => RetsR g h c (.cells (flawV f) 81) w w' ∧ w'.heap[h]? = some (.cells (flawV f) 81)) := by
  intro old ho hb; exact gives_store h (flawV f) old 81 hx hy hb (by kernel_rfl) (by rw [ho]; rfl) (by simp [flawV, Value.oneCell']) ⟨⟨rfl, rfl, rfl, setRow_size _ _ _, fun k h1 h2 => heap_setRow_ne h2, Or.inl (heap_setRow_ne hne), Or.inr (heap_setRow hb)⟩, heap_setRow hb⟩
 rcases hw with hb | hb
 · exact key _ rfl hb
 · exact key _ rfl hb
end
end Go.Proofs.YtdmjinlgdkgoiaaGreatDoor
