/- Of the layer fix: Ends, Field, Split, Stamp, DigitsW, StampW, Read. -/
import Derived.Test.YtdmjinlgdkgoiaaGreatDoorFeAb
import Derived.Test.YtdmjinlgdkgoiaaGreatDoorFeAg
import Derived.Test.YtdmjinlgdkgoiaaGreatDoorFeAm
import Derived.Deep.AppendLies
import Derived.Deep.RegionHeld3
set_option linter.unusedVariables false
set_option linter.unusedSimpArgs false
set_option maxRecDepth 100000
namespace Go.Proofs.YtdmjinlgdkgoiaaGreatDoor
section
open Go Go.RowKit
set_option maxHeartbeats 1000000
attribute [local go_sem] ba_get
theorem differs_neg {s : List UInt8} {k : Nat} {t : UInt8} {ts : List UInt8} (h : ¬ 0 ≤ differs s k (t :: ts)) : misses s[k]? t = false ∧ ¬ 0 ≤ differs s (k + 1) ts := by
 unfold differs at h; cases hm : misses s[k]? t with
 | true => rw [hm, if_pos rfl] at h; exact absurd (by omega) h
 | false => rw [hm, if_neg (by simp)] at h; exact ⟨rfl, h⟩
theorem ends_digits {s : List UInt8} {m : Nat} (hm : s.length = m + 7) (h : ¬ 0 ≤ differs s m lastOf) : ((s.drop (m + 3)).take 3).all isDigit = true ∧ ((s.drop (m + 3)).take 3).length = 3 := by
 unfold lastOf at h; obtain ⟨_, h⟩ := differs_neg h; obtain ⟨_, h⟩ := differs_neg h; obtain ⟨_, h⟩ := differs_neg h; obtain ⟨h3, h⟩ := differs_neg h; obtain ⟨h4, h⟩ := differs_neg h; obtain ⟨h5, h⟩ := differs_neg h; have e3 : m + 1 + 1 + 1 = m + 3 := by omega
 rw [e3] at h3 h4 h5; have l3 : m + 3 < s.length := by omega
 have l4 : m + 3 + 1 < s.length := by omega
 have l5 : m + 3 + 1 + 1 < s.length := by omega
 have hd : (s.drop (m + 3)).take 3 = [s[m + 3], s[m + 3 + 1], s[m + 3 + 1 + 1]] := by
  rw [List.drop_eq_getElem_cons l3, List.drop_eq_getElem_cons l4, List.drop_eq_getElem_cons l5]; rfl
 rw [List.getElem?_eq_getElem l3] at h3; rw [List.getElem?_eq_getElem l4] at h4; rw [List.getElem?_eq_getElem l5] at h5; simp only [misses, beq_self_eq_true, if_true, Bool.not_eq_false'] at h3 h4 h5; rw [hd]; simp [h3, h4, h5]
theorem natOf_take {t : List UInt8} {k : Nat} (h : k < t.length) : natOf (t.take (k + 1)) = natOf (t.take k) * 10 + ((t[k]).toNat - 48) := by
 rw [List.take_succ_eq_append_getElem h, natOf_append]; rfl
theorem natOf_take_lt {t : List UInt8} (hd : t.all isDigit = true) (k : Nat) (h : k ≤ t.length) : natOf (t.take k) < 10 ^ k := by
 have h1 : (t.take k).all isDigit = true := by
  rw [List.all_eq_true] at hd ⊢; exact fun x hx => hd x (List.mem_of_mem_take hx)
 have := natOf_lt h1
 rwa [List.length_take, Nat.min_eq_left h] at this
def endsSay (W w' : World) (e : Ending) : Option (Int × Int) → Prop
 | some f => ∃ v, e = .returned v ∧ FaultAt W w' v f.1 f.2
 | none => e = .returned (.pointer none)
theorem ends_calls (s : List UInt8) (m : Nat) (hm : s.length = m + 7) (A : Option Addr) (cap : Nat) (w : World) (hs : s.length ≤ 140737488355328) (hcap : s.length ≤ cap) (hb : Reads w A s) :
 Calls Tryz.prog 48 #[.slice A (m + 7) cap] w fun e w' => endsSay w w' e (endsTell s) ∧ Ext w w' := by
 have HB := Lib.hid hb; obtain ⟨R, hR⟩ : ∃ R, endsTell s = R := ⟨_, rfl⟩
 rw [hR]; unfold endsTell toldSum at hR; rw [hm, Nat.add_sub_cancel] at hR; obtain ⟨k, hk⟩ : ∃ k, differs s m lastOf = k := ⟨_, rfl⟩
 rw [hk] at hR; have hdf := differs_calls s A cap m lastOf w hs (by omega) (by decide) hb; rw [hk, hm] at hdf; have HDF := Lib.hid hdf; have HK := Lib.hid hk; have HM := Lib.hid hm; have hmle : m ≤ 140737488355328 := by omega
 have hcap2 : m + 7 ≤ cap := by omega
 clear hb hk hdf hs hcap; go_enter Tryz.func48, Tryz.ntmps48
 go_wp2_with fail; refine HDF.out.mono ?_; rintro e w1 ⟨rfl, hE1⟩; by_cases hk0 : 0 ≤ k
 · have e : R = some (k, 40) := by rw [← hR, if_pos hk0]
   subst e; clear hR; go_wp2_with fail; refine (fault_calls k 40 _).mono ?_; rintro e w2 ⟨⟨v, rfl, hv⟩, hE2⟩; have HV := Lib.hid (hv.more hE1); clear hv; go_wp2; go_ret; exact ⟨⟨v, rfl, HV.out⟩, hE1.trans hE2⟩
 · rw [if_neg hk0] at hR; have HR := Lib.hid hR; obtain ⟨hdg, hl3⟩ := ends_digits HM.out (by rw [HK.out]; exact hk0); have hrd : Reads w1 (some ⟨0, 0, none⟩) [] := ⟨fun h => by simp at h⟩
   obtain ⟨ad, rfl, hcells⟩ := (HB.out.ext hE1).is (by rw [HM.out]; omega); have hcells3 : ∀ (i : Nat) (h : i < ((s.drop (m + 3)).take 3).length), w1.cell? ((ad.add (m + 3)).add i) = some (.int .u8 ((((s.drop (m + 3)).take 3)[i]).toNat : Int)) := by
    intro i hi; rw [hl3] at hi; have := hcells (m + 3 + i) (by rw [HM.out]; omega); rw [add_add, this, List.getElem_take, List.getElem_drop]
   have HC3 := Lib.hid hcells3; have HRD := Lib.hid (HB.out.ext hE1); have HDG := Lib.hid hdg; have HL3 := Lib.hid hl3; clear hR hdg hl3 hrd hcells hcells3; generalize (s.drop (m + 3)).take 3 = t at *; go_wp2_with fail; generalize ad.add (m + 3) = ad2 at *; go_loop [5, 25] (fun n i => ∃ j : Nat, j ≤ 3 ∧ i = .int .i64 j ∧ n = .int .i64 (natOf (t.take j))) (fun _ i => 3 - (intOf i).toNat)
   case atStart => exact ⟨0, by omega, rfl, rfl⟩
   case round =>
    obtain ⟨j, hj, rfl, rfl⟩ := hrel; by_cases hlt : j < 3
    · have hc := HC3.out j (by rw [HL3.out]; exact hlt); have hdj : isDigit (t[j]'(by rw [HL3.out]; exact hlt)) = true := List.all_eq_true.1 HDG.out _ (List.getElem_mem _); have hnt := natOf_take (t := t) (k := j) (by rw [HL3.out]; exact hlt); have hbd := natOf_take_lt HDG.out j (by rw [HL3.out]; exact hj); have hbd2 : natOf (t.take j) < 1000 := by
       have : 10 ^ j ≤ 10 ^ 3 := Nat.pow_le_pow_right (by omega) (by omega); omega
      have HNT := Lib.hid hnt; rw [isDigit_iff] at hdj; obtain ⟨hd1, hd2⟩ := hdj; clear hnt hbd; generalize t[j]'(by rw [HL3.out]; exact hlt) = c at *; generalize hgx : natOf (t.take j) = x at *; have hd1' : (48 : Int) ≤ (c.toNat : Int) := by omega
      have hd2' : (c.toNat : Int) ≤ 57 := by omega
      clear hd1 hd2; go_wp2; go_round
      case rel => exact ⟨j + 1, by omega, by go_num, by rw [HNT.out]; refine congrArg _ ?_; omega⟩
      case measure => simp [intOf]; omega
    · obtain rfl : j = 3 := by omega
      have hb3 := natOf_take_lt HDG.out 3 (by rw [HL3.out]; omega); rw [List.take_of_length_le (by rw [HL3.out]; omega)] at hb3 ⊢; generalize natOf t = told at *; have hsl : (s.take m).length = m := by rw [List.length_take, HM.out]; omega
      obtain ⟨sm, hsm⟩ : ∃ sm, sumOf (s.take m) = sm := ⟨_, rfl⟩
      have hsum := sum_calls (s.take m) (some ad) cap w1.heap.size 1 (w1.alloc (.cells #[.slice (some ad) m cap] 25)) (by rw [hsl]; exact hmle) (by rw [hsl]; exact cell_of_row _ _ _ _ _ (0, 0) (heap_alloc_new _ _)) ((HRD.out.take m).ext ((Ext.refl _).alloc _)); rw [hsm] at hsum; have HSUM := Lib.hid hsum; have hr := HR.out; rw [hsm] at hr; have HR2 := Lib.hid hr; have hsmlt : sm < 256 := by rw [← hsm, sumOf_eq]; omega
      clear hsl hsum hsm hr; go_wp2_with fail; refine HSUM.out.mono ?_; rintro e w' ⟨rfl, rfl⟩; by_cases heq : told = sm
      · subst heq; have e : R = none := by rw [← HR2.out]; simp
        subst e; go_wp2; go_ret; exact ⟨rfl, hE1.alloc _⟩
      · have e : R = some (((m + 3 : Nat) : Int), 44) := by rw [← HR2.out, if_pos heq]
        subst e; have hne : ((told : Int) == (sm : Int)) = false := by rw [beq_eq_false_iff_ne]; omega
        go_wp2_with fail; refine (fault_calls ((m : Int) + 3) 44 _).mono ?_; rintro e w2 ⟨⟨v, rfl, hv⟩, hE2⟩; have HV := Lib.hid (hv.more (hE1.alloc _)); clear hv; go_wp2; go_ret; exact ⟨⟨v, rfl, by simpa using HV.out⟩, (hE1.alloc _).trans hE2⟩
theorem tagOf_calls (t : List UInt8) (A : Option Addr) (cap : Nat) (w : World) (hE : Env w) (hs : t.length ≤ 140737488355328) (hb : Reads w A t) :
 Calls Tryz.prog 151 #[.slice A t.length cap] w fun e w' => e = .returned (.tuple #[.int .i64 (tagTell t).1, .bool (tagTell t).2]) ∧ Ext w w' := by
 have hconv := conv_reads w A t cap hb; have HENV := Lib.hid hE; unfold tagTell; obtain ⟨⟨n, e⟩, hr⟩ : ∃ r, parseUint t 9999 = r := ⟨_, rfl⟩
 rw [hr]; have HR := Lib.hid hr; clear hE hb hr; simp only []; have hcase : ((e == 0) = false) ∨ ((e == 0) = true ∧ ((decide (1 ≤ n)) = false)) ∨ ((e == 0) = true ∧ 1 ≤ n ∧ (n != 8) = false) ∨ ((e == 0) = true ∧ 1 ≤ n ∧ (n != 8) = true ∧ (n != 9) = false) ∨ ((e == 0) = true ∧ 1 ≤ n ∧ (n != 8) = true ∧ (n != 9) = true ∧ (n != 10) = false) ∨ ((e == 0) = true ∧ 1 ≤ n ∧ (n != 8) = true ∧ (n != 9) = true ∧ (n != 10) = true) := by
  cases h1 : (e == 0) <;> cases h2 : (n != 8) <;> cases h3 : (n != 9) <;> cases h4 : (n != 10) <;> simp <;> omega
 rcases hcase with h1 | ⟨h1, h2⟩ | ⟨h1, h2, h3⟩ | ⟨h1, h2, h3, h4⟩ | ⟨h1, h2, h3, h4, h5⟩ | ⟨h1, h2, h3, h4, h5⟩
 all_goals
  first
   | (have hbv : (e == 0 && decide (1 ≤ n) && n != 8 && n != 9 && n != 10) = false := by simp only [*, Bool.false_and, Bool.and_false, Bool.true_and, Bool.not_true]
      rw [hbv])
   | (have hbv : (e == 0 && decide (1 ≤ n) && n != 8 && n != 9 && n != 10) = true := by simp only [*, decide_true, Bool.true_and, Bool.not_false]
      rw [hbv])
  clear hbv; go_enter Tryz.func151, Tryz.ntmps151
  go_wp2_with fail; refine (parseUint_calls t 9999 _ hs HENV.out).mono ?_; rw [HR.out]; rintro e w2 ⟨rfl, hE2⟩; go_wp2; go_ret2; exact ⟨by first | rfl | (simp [*]; done) | (simp [bne, *]; done), hE2⟩
end
section
open Go Go.RowKit
set_option maxHeartbeats 1600000
attribute [local go_sem] ba_get
def shownAt (s : List UInt8) (k : Nat) : Nat := ((s.drop k).takeWhile shown).length
theorem shownAt_step {s : List UInt8} {k : Nat} (h : k < s.length) (hd : shown s[k] = true) : shownAt s k = shownAt s (k + 1) + 1 := by
 unfold shownAt; rw [List.drop_eq_getElem_cons h, List.takeWhile_cons, if_pos hd]; simp
theorem shownAt_stop {s : List UInt8} {k : Nat} (h : ∀ h : k < s.length, shown s[k] = false) : shownAt s k = 0 := by
 unfold shownAt; by_cases hk : k < s.length
 · rw [List.drop_eq_getElem_cons hk, List.takeWhile_cons, if_neg (by simp [h hk])]; rfl
 · rw [List.drop_eq_nil_of_le (by omega)]; rfl
theorem shownAt_le (s : List UInt8) (k : Nat) : shownAt s k ≤ s.length - k := by
 unfold shownAt; have := (List.takeWhile_prefix shown (l := s.drop k)).length_le; simpa using this
theorem blk_facts {w : World} {g : Nat} {cs : Array Value} {t : TypeId} (h : w.heap[g]? = some (.cells cs t)) : (∀ j, w.cell? ⟨g, j, none⟩ = cs[j]?) ∧ (∀ j, w.frozen? ⟨g, j, none⟩ = false) := by
 refine ⟨fun j => cell_of_row w g j cs t (0, 0) h, fun j => ?_⟩; simp [World.frozen?, h]
theorem FaultAt.setCell {W w : World} {v : Value} {a e : Int} (h : FaultAt W w v a e) {b o : Nat} (hb : b < W.heap.size) (u : Value) : FaultAt W (w.setCell ⟨b, o, none⟩ u) v a e := by
 obtain ⟨g, rfl, hg, hh⟩ := h.is; refine ⟨g, rfl, hg, ?_⟩; rw [Below.heap_setCell w ⟨b, o, none⟩ u g (by show g ≠ b; omega)]; exact hh
def fieldSays (W w' : World) (e : Ending) : (Fld × Nat) ⊕ (Int × Int) → Prop
 | .inr f => ∃ v, e = .returned (.tuple #[.agg #[.int .i64 0, .string ⟨#[]⟩], .int .i64 0, v]) ∧ FaultAt W w' v f.1 f.2
 | .inl r => e = .returned (.tuple #[.agg #[.int .i64 r.1.1, .string ⟨(r.1.2).toArray⟩], .int .i64 r.2, .pointer none])
theorem field_calls (s : List UInt8) (A : Option Addr) (cap k stop : Nat) (w : World) (hE : Env w) (hs : s.length ≤ 140737488355328) (hcap : s.length ≤ cap) (hk : k < stop) (hstop : stop ≤ s.length) (hb : Reads w A s) :
 Calls Tryz.prog 49 #[.slice A s.length cap, .int .i64 k, .int .i64 stop] w fun e w' => fieldSays w w' e (fieldTell s k stop) ∧ Ext w w' := by
 have HENV := Lib.hid hE; have HB := Lib.hid hb; obtain ⟨R, hR⟩ : ∃ R, fieldTell s k stop = R := ⟨_, rfl⟩
 rw [hR]; have hstl : (s.take stop).length = stop := by rw [List.length_take]; omega
 obtain ⟨n, hn⟩ : ∃ n, digitsAt (s.take stop) k = n := ⟨_, rfl⟩
 have hnle := digitsAt_le (s.take stop) k; rw [hn, hstl] at hnle; obtain ⟨⟨tg, ok⟩, htg⟩ : ∃ r, tagTell ((s.drop k).take n) = r := ⟨_, rfl⟩
 unfold fieldTell at hR; simp only [hn, htg] at hR; obtain ⟨ad, rfl, hcells⟩ := hb.is (by omega); have hdig := digits_calls (s.take stop) (some ad) cap k (w.alloc (.cells #[.int .i64 0, .string ⟨#[]⟩] 67)) (by rw [hstl]; omega) (by omega) ((hb.take stop).ext ((Ext.refl _).alloc _)); rw [hstl, hn] at hdig; have HDIG := Lib.hid hdig; have HR := Lib.hid hR; have HTG := Lib.hid htg; have HN := Lib.hid hn; have hck : ¬ cap = k := by omega
 have HCELLS := Lib.hid hcells; have htl : ((s.drop k).take n).length = n := by rw [List.length_take, List.length_drop]; omega
 have htr : Reads w (some (ad.add k)) ((s.drop k).take n) := by
  have h1 := (hb.drop (n := k) hcap).take n; rw [if_neg hck] at h1; exact h1
 have htag := tagOf_calls ((s.drop k).take n) (some (ad.add k)) (cap - k) (w.alloc (.cells #[.int .i64 0, .string ⟨#[]⟩] 67)) (hE.ext ((Ext.refl _).alloc _)) (by omega) (htr.ext ((Ext.refl _).alloc _)); rw [htl, htg] at htag; have HTAG := Lib.hid htag; have hnle' : (n : Int) ≤ (stop : Int) - (k : Int) := by omega
 have hstop' : (stop : Int) ≤ (cap : Int) := by omega
 clear hE hb hR hn hdig htg hcells hstl htl htr htag; go_enter Tryz.func49, Tryz.ntmps49
 go_wp2_with fail; refine HDIG.out.mono ?_; rintro e w1 ⟨rfl, rfl⟩; go_wp2_with fail; refine HTAG.out.mono ?_; rintro e w2 ⟨rfl, hE2⟩; have hX : Ext w w2 := ((Ext.refl w).alloc (.cells #[.int .i64 0, .string ⟨#[]⟩] 67)).trans hE2; have hblk : w2.heap[w.heap.size]? = some (.cells #[.int .i64 0, .string ⟨#[]⟩] 67) := hE2.heap (heap_alloc_new _ _); have HX := Lib.hid hX; have HBLK := Lib.hid hblk; clear hE2 hX hblk; have hgood : (ok = false ∨ k + n = stop ∨ s[k + n]? ≠ some 61) ∨ (ok = true ∧ k + n < stop ∧ s[k + n]? = some 61) := by
  cases ok
  · exact .inl (.inl rfl)
  · by_cases h1 : k + n = stop
    · exact .inl (.inr (.inl h1))
    · by_cases h2 : s[k + n]? = some 61
      · exact .inr ⟨rfl, by omega, h2⟩
      · exact .inl (.inr (.inr h2))
 rcases hgood with hbad | ⟨rfl, hlt, heq⟩
 · have hr := HR.out; rw [if_pos hbad] at hr; subst hr; have hcase : ok = false ∨ (ok = true ∧ ((k : Int) + (n : Int) == (stop : Int)) = true) ∨ (ok = true ∧ ((k : Int) + (n : Int) == (stop : Int)) = false ∧ ∃ h : k + n < s.length, ((s[k + n].toNat : Int) != 61) = true) := by
    cases ok
    · exact .inl rfl
    · right
      by_cases h1 : k + n = stop
      · left; refine ⟨rfl, ?_⟩; rw [beq_iff_eq]; omega
      · right
        have hl : k + n < s.length := by omega
        refine ⟨rfl, by rw [beq_eq_false_iff_ne]; omega, hl, ?_⟩; rcases hbad with h | h | h
        · cases h
        · exact absurd h h1
        · rw [List.getElem?_eq_getElem hl] at h; rw [bne_iff_ne]; intro e; exact h (congrArg some (UInt8.toNat_inj.1 (by simpa using (by omega : (s[k + n]).toNat = 61))))
   clear hbad; rcases hcase with rfl | ⟨rfl, h2⟩ | ⟨rfl, h2, h3, h4⟩
   case' inr.inr =>
    have hc := HX.out.cellA (HCELLS.out (k + n) h3); generalize s[k + n] = c at *
   all_goals
    go_wp2_with fail; refine (fault_calls k 41 _).mono ?_; rintro e w3 ⟨⟨v, rfl, hv⟩, hE3⟩; have hb3 := hE3.heap HBLK.out; obtain ⟨hq, hf⟩ := blk_facts hb3; have q0 := hq 0; have q1 := hq 1; have f0 := hf 0; have f1 := hf 1; have HV := Lib.hid hv; have HE3 := Lib.hid hE3; have hgl : w.heap.size < w2.heap.size := (Array.getElem?_eq_some_iff.1 HBLK.out).1; have HGL := Lib.hid hgl; clear hq hf hb3 hv hE3 hgl; simp at q0 q1; go_wp2; refine bodyPost_ret (v := .tuple #[.agg #[.int .i64 0, .string ⟨#[]⟩], .int .i64 0, v]) (by simp [results, Tryz.results49, go_sem, q0, q1]) rfl ⟨?_, ?_⟩
    · exact ⟨v, rfl, ((HV.out.setCell HGL.out _).setCell HGL.out _).more HX.out⟩
    · exact ((HX.out.trans HE3.out).setCell (Nat.le_refl _) _).setCell (Nat.le_refl _) _
 · have hr := HR.out; rw [if_neg (by
    rintro (h | h | h)
    · cases h
    · omega
    · exact h heq)] at hr
   have hl : k + n < s.length := by omega
   rw [List.getElem?_eq_getElem hl] at heq; have hc := HX.out.cellA (HCELLS.out (k + n) hl); have heq' := Option.some.inj heq; rw [heq'] at hc; obtain ⟨m, hm⟩ : ∃ m, shownAt (s.take stop) (k + n + 1) = m := ⟨_, rfl⟩
   have hmm : (List.takeWhile shown (List.drop (k + n + 1) (List.take stop s))).length = m := hm; rw [hmm] at hr; have HR2 := Lib.hid hr; have HM := Lib.hid hm; have hne : ((k : Int) + (n : Int) == (stop : Int)) = false := by rw [beq_eq_false_iff_ne]; omega
   have hlt' : (k : Int) + (n : Int) < (stop : Int) := by omega
   clear hr heq heq' hm hmm HR; go_wp2_with fail; have hstl : (s.take stop).length = stop := by rw [List.length_take]; omega
   go_loop [13] (fun i => ∃ j : Nat, i = .int .i64 ((k : Int) + (n : Int) + 1 + (j : Int)) ∧ k + n + 1 + j ≤ stop ∧ shownAt (s.take stop) (k + n + 1 + j) + j = m) (fun i => stop - (intOf i).toNat)
   case atStart => exact ⟨0, by simp, by omega, by simpa using HM.out⟩
   case round =>
    obtain ⟨j, rfl, hj, hrun⟩ := hrel; have HRUN := Lib.hid hrun; clear hrun hc; by_cases hin : k + n + 1 + j < stop
    · have hc := HX.out.cellA (HCELLS.out (k + n + 1 + j) (by omega)); have hget : (s.take stop)[k + n + 1 + j]'(by rw [hstl]; exact hin) = s[k + n + 1 + j]'(by omega) := List.getElem_take; have hin' : (k : Int) + (n : Int) + 1 + (j : Int) < (stop : Int) := by omega
      by_cases hsh : shown (s[k + n + 1 + j]'(by omega)) = true
      · have hnx : shownAt (s.take stop) (k + n + 1 + (j + 1)) + (j + 1) = m := by
         have h1 := HRUN.out; rw [shownAt_step (by rw [hstl]; exact hin) (by rw [hget]; exact hsh)] at h1; have h2 : k + n + 1 + (j + 1) = k + n + 1 + j + 1 := by omega
         rw [h2]; omega
        have HNX := Lib.hid hnx; rw [shown_iff] at hsh; obtain ⟨h1, h2⟩ := hsh; clear hnx hget; generalize s[k + n + 1 + j]'(by omega) = c at *; go_wp2; go_round
        case rel => exact ⟨j + 1, by go_num, by omega, HNX.out⟩
        case measure => simp [intOf]; omega
      · have hsh : shown (s[k + n + 1 + j]'(by omega)) = false := by simpa using hsh
        have hjm : j = m := by
         have h1 := HRUN.out; rw [shownAt_stop (fun h => by rw [hget]; exact hsh)] at h1; omega
        subst hjm; have hns := not_shown (by rw [hsh]; simp : ¬ shown (s[k + n + 1 + j]'(by omega)) = true); have hP : k + n + 1 + j < s.length := by omega
        have hget2 : s[k + n + 1 + j]? = some (s[k + n + 1 + j]'(by omega)) := List.getElem?_eq_getElem hP; have hr := HR2.out; rw [hget2] at hr; have HR3 := Lib.hid hr; clear hr hget hsh hget2 HR2; have hps : ¬ k + n + 1 + j = stop := by omega
        generalize s[k + n + 1 + j]'(by omega) = c at *; have hpne : ((k : Int) + (n : Int) + 1 + (j : Int) == (stop : Int)) = false := by rw [beq_eq_false_iff_ne]; omega
        by_cases hm0 : j = 0
        · subst hm0; have e : R = .inr (((k + n + 1 + 0 : Nat) : Int), 42) := by rw [← HR3.out, if_pos (.inr (.inl rfl))]
          subst e; have hc' : w2.cell? ⟨ad.block, ad.off + (k + n + 1), none⟩ = some (.int .u8 (c.toNat : Int)) := by simpa [Addr.add] using hc
          rcases hns with h1 | ⟨h1, h2⟩
          all_goals
           go_wp2_with fail; refine (fault_calls ((k : Int) + (n : Int) + 1) 42 _).mono ?_; rintro e w3 ⟨⟨v, rfl, hv⟩, hE3⟩; have hb3 := hE3.heap HBLK.out; obtain ⟨hq, hf⟩ := blk_facts hb3; have q0 := hq 0; have q1 := hq 1; have f0 := hf 0; have f1 := hf 1; have HV := Lib.hid hv; have HE3 := Lib.hid hE3; have hgl : w.heap.size < w2.heap.size := (Array.getElem?_eq_some_iff.1 HBLK.out).1; have HGL := Lib.hid hgl; clear hq hf hb3 hv hE3 hgl; simp at q0 q1; go_wp2; refine bodyPost_ret (v := .tuple #[.agg #[.int .i64 0, .string ⟨#[]⟩], .int .i64 0, v]) (by simp [results, Tryz.results49, go_sem, q0, q1]) rfl ⟨?_, ?_⟩
           · exact ⟨v, rfl, by simpa using ((HV.out.setCell HGL.out _).setCell HGL.out _).more HX.out⟩
           · exact ((HX.out.trans HE3.out).setCell (Nat.le_refl _) _).setCell (Nat.le_refl _) _
        · have hje : ((k : Int) + (n : Int) + 1 + (j : Int) == (k : Int) + (n : Int) + 1) = false := by rw [beq_eq_false_iff_ne]; omega
          by_cases hc1 : c = 1
          · subst hc1; have e : R = .inl ((tg, (s.drop (k + n + 1)).take j), k + n + 1 + j + 1) := by
             rw [← HR3.out, if_neg]; rintro (h | h | h)
             · exact hps h
             · exact hm0 h
             · exact h rfl
            subst e; clear hns; have hrd : Reads w2 (some ⟨ad.block, ad.off + (k + n + 1), none⟩) ((s.drop (k + n + 1)).take j) := by
             have h1 := ((HB.out.ext HX.out).drop (n := k + n + 1) hcap).take j; rw [if_neg (by omega)] at h1; simpa [Addr.add] using h1
            have hlen2 : ((s.drop (k + n + 1)).take j).length = j := by rw [List.length_take, List.length_drop]; omega
            have hconv := conv_reads w2 (some ⟨ad.block, ad.off + (k + n + 1), none⟩) ((s.drop (k + n + 1)).take j) (cap - (k + n + 1)) hrd; rw [hlen2] at hconv; clear hrd hlen2; generalize hval : (s.drop (k + n + 1)).take j = val at *; have HVAL := Lib.hid hval; clear hval; have hckk : ¬ cap = k + n + 1 := by omega
            obtain ⟨hq, hf⟩ := blk_facts HBLK.out; have q0 := hq 0; have q1 := hq 1; have f0 := hf 0; have f1 := hf 1; clear hq hf; simp at q0 q1; go_wp2; refine bodyPost_ret (v := .tuple #[.agg #[.int .i64 tg, .string ⟨val.toArray⟩], .int .i64 ((k : Int) + (n : Int) + 1 + (j : Int) + 1), .pointer none]) (by simp [results, Tryz.results49, go_sem, q0, q1]) rfl ⟨?_, ?_⟩
            · simp [fieldSays, HVAL.out]
            · exact (HX.out.setCell (Nat.le_refl _) _).setCell (Nat.le_refl _) _
          · have e : R = .inr (((k + n + 1 + j : Nat) : Int), 42) := by rw [← HR3.out, if_pos (.inr (.inr (by simpa using hc1)))]
            subst e; have hc1' : ((c.toNat : Int) != 1) = true := by
             rw [bne_iff_ne]; intro e; exact hc1 (UInt8.toNat_inj.1 (by simpa using (by omega : c.toNat = 1)))
            rcases hns with h1 | ⟨h1, h2⟩
            all_goals
             go_wp2_with fail; refine (fault_calls ((k : Int) + (n : Int) + 1 + (j : Int)) 42 _).mono ?_; rintro e w3 ⟨⟨v, rfl, hv⟩, hE3⟩; have hb3 := hE3.heap HBLK.out; obtain ⟨hq, hf⟩ := blk_facts hb3; have q0 := hq 0; have q1 := hq 1; have f0 := hf 0; have f1 := hf 1; have HV := Lib.hid hv; have HE3 := Lib.hid hE3; have hgl : w.heap.size < w2.heap.size := (Array.getElem?_eq_some_iff.1 HBLK.out).1; have HGL := Lib.hid hgl; clear hq hf hb3 hv hE3 hgl; simp at q0 q1; go_wp2; refine bodyPost_ret (v := .tuple #[.agg #[.int .i64 0, .string ⟨#[]⟩], .int .i64 0, v]) (by simp [results, Tryz.results49, go_sem, q0, q1]) rfl ⟨?_, ?_⟩
             · exact ⟨v, rfl, by simpa using ((HV.out.setCell HGL.out _).setCell HGL.out _).more HX.out⟩
             · exact ((HX.out.trans HE3.out).setCell (Nat.le_refl _) _).setCell (Nat.le_refl _) _
    · have hjs : k + n + 1 + j = stop := by omega
      have hjm : j = m := by
       have h1 := HRUN.out; rw [shownAt_stop (fun h => absurd h (by rw [hstl]; exact hin))] at h1; omega
      subst hjm; have e : R = .inr (((k + n + 1 + j : Nat) : Int), 42) := by rw [← HR2.out, if_pos (.inl hjs)]
      subst e; have hin' : ¬ (k : Int) + (n : Int) + 1 + (j : Int) < (stop : Int) := by omega
      have hpe : ((k : Int) + (n : Int) + 1 + (j : Int) == (stop : Int)) = true := by rw [beq_iff_eq]; omega
      go_wp2_with fail; refine (fault_calls ((k : Int) + (n : Int) + 1 + (j : Int)) 42 _).mono ?_; rintro e w3 ⟨⟨v, rfl, hv⟩, hE3⟩; have hb3 := hE3.heap HBLK.out; obtain ⟨hq, hf⟩ := blk_facts hb3; have q0 := hq 0; have q1 := hq 1; have f0 := hf 0; have f1 := hf 1; have HV := Lib.hid hv; have HE3 := Lib.hid hE3; have hgl : w.heap.size < w2.heap.size := (Array.getElem?_eq_some_iff.1 HBLK.out).1; have HGL := Lib.hid hgl; clear hq hf hb3 hv hE3 hgl; simp at q0 q1; go_wp2; refine bodyPost_ret (v := .tuple #[.agg #[.int .i64 0, .string ⟨#[]⟩], .int .i64 0, v]) (by simp [results, Tryz.results49, go_sem, q0, q1]) rfl ⟨?_, ?_⟩
      · exact ⟨v, rfl, by simpa using ((HV.out.setCell HGL.out _).setCell HGL.out _).more HX.out⟩
      · exact ((HX.out.trans HE3.out).setCell (Nat.le_refl _) _).setCell (Nat.le_refl _) _
end
section
open Go Go.RowKit
set_option maxHeartbeats 1600000
attribute [local go_sem] ba_get
def fldCells (l : List Fld) : List Value := l.flatMap fun f => [.int .i64 f.1, .string ⟨(f.2).toArray⟩]
theorem fldCells_append (l k : List Fld) : fldCells (l ++ k) = fldCells l ++ fldCells k := by simp [fldCells]
theorem fldCells_at (l : List Fld) (k : Nat) (h : k < l.length) : (fldCells l)[k * 2]? = some (.int .i64 (l[k]).1) ∧ (fldCells l)[k * 2 + 1]? = some (.string ⟨((l[k]).2).toArray⟩) := by
 induction l generalizing k with
 | nil => simp at h
 | cons f l ih =>
  have hc : fldCells (f :: l) = .int .i64 f.1 :: .string ⟨(f.2).toArray⟩ :: fldCells l := rfl; cases k with
  | zero => rw [hc]; exact ⟨rfl, rfl⟩
  | succ k =>
   have h1 : (k + 1) * 2 = k * 2 + 1 + 1 := by omega
   rw [hc, h1]; simpa using ih k (by simpa using h)
def OwnF (w : World) (base : Nat) (v : Value) (l : List Fld) : Prop := w.ownsRow base 67 2 v l.length (fldCells l)
theorem infoFld : (Tryz.prog.info? 67).map (fun i => (i.zero, i.size, i.bytes)) = some (some (.agg #[.int .i64 0, .string ⟨#[]⟩]), 2, 24) := by kernel_rfl
theorem fieldTell_next {s : List UInt8} {k stop : Nat} {f : Fld} {k' : Nat} (hk : k < stop) (hs : stop ≤ s.length) (h : fieldTell s k stop = .inl (f, k')) : k < k' ∧ k' ≤ stop ∧ f.2.length ≤ s.length ∧ 1 ≤ f.1 ∧ f.1 ≤ 9999 := by
 unfold fieldTell at h; have hn := digitsAt_le (s.take stop) k; have hl : (s.take stop).length = stop := by rw [List.length_take]; omega
 rw [hl] at hn; generalize digitsAt (s.take stop) k = n at *; simp only [] at h; split at h
 · cases h
 · rename_i h1
   split at h
   · cases h
   · rename_i h2
     have hm : (((s.take stop).drop (k + n + 1)).takeWhile shown).length ≤ stop - (k + n + 1) := by
      have := shownAt_le (s.take stop) (k + n + 1)
      rwa [hl] at this
     simp only [Sum.inl.injEq, Prod.mk.injEq] at h; obtain ⟨rfl, rfl⟩ := h; simp only [not_or, Bool.not_eq_false] at h1 h2; refine ⟨by omega, by omega, ?_, ?_⟩
     · simp only [List.length_take, List.length_drop]; omega
     · have := h1.1; unfold tagTell at this ⊢; simp only [Bool.and_eq_true, beq_iff_eq, decide_eq_true_eq] at this; refine ⟨this.1.1.1.2, ?_⟩; have h0 := this.1.1.1.1; unfold parseUint at h0 ⊢; split at h0
       · cases h0
       · rename_i h3
         rw [if_neg h3]; split at h0
         · cases h0
         · rename_i h4
           rw [if_neg h4]; dsimp only; omega
theorem headTells_inl {s : List UInt8} {n k : Nat} (h : headTells s = .inl (n, k)) : n ≤ 9999 ∧ 13 ≤ k ∧ k ≤ 17 ∧ k ≤ s.length := by
 unfold headTells at h; simp only [] at h; split at h
 · cases h
 · split at h
   · cases h
   · rename_i h2
     split at h
     · cases h
     · rename_i h4
       split at h
       · cases h
       · rename_i h5
         simp only [Sum.inl.injEq, Prod.mk.injEq] at h; obtain ⟨rfl, rfl⟩ := h; simp only [not_or] at h5; have hl := digitsAt_le s 12; have hz := head_number rfl h5.1 h4 h2; exact ⟨hz.2, by omega, by omega, by omega⟩
theorem OwnF.ext {w w' : World} {base : Nat} {v : Value} {l : List Fld} (h : OwnF w base v l) (hE : Ext w w') : OwnF w' base v l := by
 refine ⟨h.1, ?_⟩; rcases h.2 with h0 | ⟨g, cap, cur, hv, hb, hg, rest⟩
 · exact .inl h0
 · exact .inr ⟨g, cap, cur, hv, hb, hE.heap hg, rest⟩
theorem OwnF.more {w : World} {base base' : Nat} {v : Value} {l : List Fld} (h : OwnF w base v l) (hb : base' ≤ base) : OwnF w base' v l := by
 refine ⟨h.1, ?_⟩; rcases h.2 with h0 | ⟨g, cap, cur, hv, hb2, rest⟩
 · exact .inl h0
 · exact .inr ⟨g, cap, cur, hv, by omega, rest⟩
theorem OwnF.block {w : World} {base : Nat} {v : Value} {l : List Fld} (h : OwnF w base v l) {k : Nat} (hk : v.ownBlock = some k) : base ≤ k := by
 rcases h.2 with ⟨rfl, _⟩ | ⟨g, cap, cur, rfl, hb, _⟩
 · simp [Value.ownBlock] at hk
 · simp only [Value.ownBlock, Option.some.injEq] at hk; omega
theorem OwnF.nil (w : World) (base : Nat) : OwnF w base (.slice none 0 0) [] := World.ownsRow_nil w base 67 2
def splitSays (W w' : World) (e : Ending) : List Fld ⊕ (Int × Int) → Prop
 | .inr f => ∃ v, e = .returned (.tuple #[.slice none 0 0, .iface 84 v]) ∧ FaultAt W w' v f.1 f.2
 | .inl l => ∃ v, e = .returned (.tuple #[v, .nilIface]) ∧ OwnF w' W.heap.size v l
theorem split_calls (s : List UInt8) (A : Option Addr) (cap : Nat) (w : World) (hE : Env w) (hs : s.length ≤ 140737488355328) (hcap : s.length ≤ cap) (hcap2 : cap ≤ 9223372036854775807) (hb : Reads w A s) :
 Calls Tryz.prog 20 #[.slice A s.length cap] w fun e w' => splitSays w w' e (split s) ∧ Ext w w' := by
 have HENV := Lib.hid hE; have HB := Lib.hid hb; obtain ⟨R, hR⟩ : ∃ R, split s = R := ⟨_, rfl⟩
 rw [hR]; unfold split at hR; by_cases hlong : 1024 < s.length
 · rw [if_pos hlong] at hR; subst hR; clear hE hb; go_enter Tryz.func20, Tryz.ntmps20
   go_wp2_with fail; refine (fault_calls 1024 43 _).mono ?_; rintro e w2 ⟨⟨v, rfl, hv⟩, hE2⟩; have HV := Lib.hid hv; clear hv; go_wp2; go_ret2; exact ⟨⟨v, rfl, HV.out⟩, hE2⟩
 · rw [if_neg hlong] at hR; obtain ⟨h, hh⟩ : ∃ h, headTells s = h := ⟨_, rfl⟩
   rw [hh] at hR; have hhead := head_calls s A cap w hE hs hcap hb; rw [hh] at hhead; have HHEAD := Lib.hid hhead; have HR := Lib.hid hR; have HH := Lib.hid hh; clear hE hb hR hhead hh; cases h with
   | inr f =>
    obtain ⟨fa, fe⟩ := f; have e : R = .inr (fa, fe) := HR.out.symm; subst e; go_enter Tryz.func20, Tryz.ntmps20
    go_wp2_with fail; refine HHEAD.out.mono ?_; rintro e w1 ⟨⟨v, rfl, hv⟩, hE1⟩; obtain ⟨g, rfl, hg, hgb⟩ := hv.is; have HV := Lib.hid hv; clear hv hg hgb; go_wp2; go_ret2; exact ⟨⟨_, rfl, HV.out⟩, hE1⟩
   | inl p =>
    obtain ⟨n, k⟩ := p; simp only [] at HR; obtain ⟨hn9, hk13, hk17, hkl⟩ := headTells_inl HH.out; by_cases hlen : s.length = k + n + 7
    · have hr := HR.out; rw [if_neg (by simpa using hlen)] at hr; obtain ⟨o, ho⟩ : ∃ o, endsTell s = o := ⟨_, rfl⟩
      rw [ho] at hr; have HO := Lib.hid ho; have HR2 := Lib.hid hr; clear hr HR ho; obtain ⟨m, hm⟩ : ∃ m, s.length = m + 7 := ⟨k + n, hlen⟩
      have HM := Lib.hid hm; have hne : ((s.length : Int) - (k : Int) != (n : Int) + 7) = false := by
       rw [bne_eq_false_iff_eq]; omega
      have HLEN := Lib.hid hlen; clear hm hlen; go_enter Tryz.func20, Tryz.ntmps20
      go_wp2_with fail; refine HHEAD.out.mono ?_; rintro e w1 ⟨he, hE1⟩; obtain rfl : e = .returned (.tuple #[.int .i64 n, .int .i64 12, .int .i64 k, .pointer none]) := he; have hends := ends_calls s m HM.out A cap w1 hs hcap (HB.out.ext hE1); rw [← HM.out, HO.out] at hends; have HENDS := Lib.hid hends; clear hends; cases o with
      | some f =>
       have e : R = .inr f := HR2.out.symm; subst e; go_wp2_with fail; refine HENDS.out.mono ?_; rintro e w2 ⟨⟨v, rfl, hv⟩, hE2⟩; obtain ⟨g, rfl, hg, hgb⟩ := hv.is; have HV := Lib.hid (hv.more hE1); clear hv hg hgb; go_wp2; go_ret2; exact ⟨⟨_, rfl, HV.out⟩, hE1.trans hE2⟩
      | none =>
       simp only [] at HR2; go_wp2_with fail; refine HENDS.out.mono ?_; rintro e w2 ⟨he, hE2⟩; obtain rfl : e = .returned (.pointer none) := he; have hX := hE1.trans hE2; go_wp2_with fail; obtain ⟨stop, hst⟩ : ∃ stop, k + n = stop := ⟨_, rfl⟩
       have hst' : (k : Int) + (n : Int) = (stop : Int) := by omega
       have hstl : stop ≤ s.length := by have := HLEN.out; omega
       have hks : k ≤ stop := by omega
       have hr2 := HR2.out; rw [hst] at hr2; have HR3 := Lib.hid hr2; simp only [hst']; clear hr2 HR2 hst hst' hne; go_loopw [9, 10] (fun v i wr => ∃ (k' fuel : Nat) (l' : List Fld), i = .int .i64 k' ∧ k' ≤ stop ∧ Ext w2 wr ∧ OwnF wr w2.heap.size v l' ∧ l'.length ≤ k' ∧ stop < k' + fuel ∧ fieldsTell s stop fuel k' l' = R) (fun _ i _ => stop - (intOf i).toNat)
       case atStart => exact ⟨k, s.length + 1, [], rfl, hks, Ext.refl _, OwnF.nil _ _, by simp, by omega, HR3.out⟩
       case round =>
        obtain ⟨k', fuel, l', rfl, hk', hE3, hown, hll, hfuel, hrun⟩ := hrel; have HRUN := Lib.hid hrun; have HOWN := Lib.hid hown; have HE3 := Lib.hid hE3; clear hrun hown hE3; by_cases hin : k' < stop
        · obtain ⟨fu, rfl⟩ : ∃ fu, fuel = fu + 1 := ⟨fuel - 1, by omega⟩
          have hrun := HRUN.out; unfold fieldsTell at hrun; rw [if_neg (by omega)] at hrun; obtain ⟨o, ho⟩ : ∃ o, fieldTell s k' stop = o := ⟨_, rfl⟩
          rw [ho] at hrun; have hX3 := hX.trans HE3.out
          rename World => wr3
          have hfield := field_calls s A cap k' stop wr3 (HENV.out.ext hX3) hs hcap hin hstl (HB.out.ext hX3); rw [ho] at hfield; have HF := Lib.hid hfield; have HO2 := Lib.hid ho; have HRUN2 := Lib.hid hrun; have HX3 := Lib.hid hX3; clear hrun ho hfield hX3 HRUN; cases o with
          | inr f =>
           have e : R = .inr f := HRUN2.out.symm; subst e; go_wp2_with fail; refine HF.out.mono ?_; rintro e w4 ⟨⟨v, rfl, hv⟩, hE4⟩; obtain ⟨g, rfl, hg, hgb⟩ := hv.is; have HV := Lib.hid (hv.more HX3.out); clear hv hg hgb; go_wp2; go_ret2; exact ⟨⟨_, rfl, HV.out.ext ((Ext.refl _).alloc _)⟩, (HX3.out.trans hE4).alloc _⟩
          | inl r =>
           obtain ⟨⟨tg, val⟩, k2⟩ := r; simp only [] at HRUN2; obtain ⟨h1, h2, h3, h4, h5⟩ := fieldTell_next hin hstl HO2.out; have HH2 := Lib.hid (And.intro h1 (And.intro h2 (And.intro h3 (And.intro h4 h5)))); clear h1 h2 h3 h4 h5; go_wp2_with fail; refine HF.out.mono ?_; rintro e w4 ⟨he, hE4⟩; obtain rfl : e = .returned (.tuple #[.agg #[.int .i64 tg, .string ⟨val.toArray⟩], .int .i64 k2, .pointer none]) := he; obtain ⟨i0, hi0, hz0, hz1, hz2⟩ := info_parts infoFld; have HI := Lib.hid (And.intro hi0 (And.intro hz0 (And.intro hz1 hz2))); clear hi0 hz0 hz1 hz2; have hEa : Ext w4 ((w4.alloc (.cells #[.int .i64 tg, .string ⟨val.toArray⟩] 67)).alloc (.cells #[.int .i64 tg, .string ⟨val.toArray⟩] 67)) := ((Ext.refl _).alloc _).alloc _; have hcells : ∀ j u, ([.int .i64 tg, .string ⟨val.toArray⟩] : List Value)[j]? = some u → ((w4.alloc (.cells #[.int .i64 tg, .string ⟨val.toArray⟩] 67)).alloc (.cells #[.int .i64 tg, .string ⟨val.toArray⟩] 67)).cell? ((⟨w4.heap.size + 1, 0, none⟩ : Addr).add j) = some u :=
            World.news_of_block (cs := #[.int .i64 tg, .string ⟨val.toArray⟩]) (t := 67) (fr := (0, 0)) (by
             have := heap_alloc_new (w4.alloc (.cells #[.int .i64 tg, .string ⟨val.toArray⟩] 67)) (.cells #[.int .i64 tg, .string ⟨val.toArray⟩] 67); simpa using this)
           have HO9 := Lib.hid (HOWN.out.ext (hE4.trans hEa)); have hE9 := HE3.out.trans (hE4.trans hEa); have HE9 := Lib.hid hE9; have HC9 := Lib.hid hcells; have HLIM9 : RowKit.Hid (l'.length + 1 ≤ 1025) := Lib.hid (by omega); clear hE4 hEa hcells hE9; go_wp2_with (first | (at_builtin; refine wpList_append_lies _ rfl (.tmp 66) (.tmp 68) 40 rfl w2.heap.size 67 i0 _ 2 24 Tryz.underlying40 HI.out.1 HI.out.2.1 HI.out.2.2.1 HI.out.2.2.2 rfl (by decide) _ l'.length (fldCells l') rfl HO9.out ⟨w4.heap.size + 1, 0, none⟩ 1 1 [.int .i64 tg, .string ⟨val.toArray⟩] rfl rfl HC9.out (by intro u hu; simp at hu; rcases hu with rfl | rfl <;> rfl) (by decide) (by have := HLIM9.out; simp only [maxLen]; omega) (by have := HLIM9.out; omega) HE9.out.size _ rfl ?_; intro g9 c9 w9 hown9 hg9 hat9 hlt9; have HOWN9 := Lib.hid hown9; have HG9 := Lib.hid hg9; clear hown9 hg9 hat9 hlt9)); have hE10 : Ext w2 w9 := Ext.grown' HE9.out HG9.out HE9.out.size (fun k hk => HO9.out.block hk); have hown10 : OwnF w9 w2.heap.size (.slice (some ⟨g9, 0, none⟩) (l'.length + 1) c9) (l' ++ [(tg, val)]) := by
            unfold OwnF; rw [fldCells_append, List.length_append]; exact HOWN9.out
           obtain ⟨h1, h2, h3, h4, h5⟩ := HH2.out; go_roundw
           case rel => exact ⟨k2, fu, l' ++ [(tg, val)], rfl, h2, hE10, hown10, by rw [List.length_append]; simp; omega, by omega, HRUN2.out⟩
           case measure => simp [intOf]; omega
        · obtain rfl : k' = stop := by omega
          have e : R = .inl l' := by
           obtain ⟨fu, rfl⟩ : ∃ fu, fuel = fu + 1 := ⟨fuel - 1, by omega⟩
           rw [← HRUN.out]; unfold fieldsTell; rw [if_pos (Nat.le_refl _)]
          subst e; go_wp2; go_ret2; exact ⟨⟨_, rfl, HOWN.out.more hX.size⟩, hX.trans HE3.out⟩
    · have e : R = .inr (12, 43) := by
       have := HR.out; simp only [ne_eq, hlen, not_false_eq_true, if_true] at this; exact this.symm
      subst e; have hne : ((s.length : Int) - (k : Int) != (n : Int) + 7) = true := by rw [bne_iff_ne]; omega
      go_enter Tryz.func20, Tryz.ntmps20
      go_wp2_with fail; refine HHEAD.out.mono ?_; rintro e w1 ⟨he, hE1⟩; obtain rfl : e = .returned (.tuple #[.int .i64 n, .int .i64 12, .int .i64 k, .pointer none]) := he; go_wp2_with fail; refine (fault_calls 12 43 _).mono ?_; rintro e w2 ⟨⟨v, rfl, hv⟩, hE2⟩; have HV := Lib.hid (hv.more hE1); clear hv; go_wp2; go_ret2; exact ⟨⟨v, rfl, HV.out⟩, hE1.trans hE2⟩
end
section
open Go Go.RowKit
set_option maxHeartbeats 1600000
attribute [local go_sem] ba_get
theorem dateOf_calls (n : Int) (w : World) (h0 : 0 ≤ n) (h1 : n ≤ 2932896) :
 Calls Tryz.prog 355 #[.int .i64 n] w fun e w' => e = .returned (.int .i64 (dateOf n)) ∧ Ext w w' := by
 obtain ⟨hs, hs2⟩ := aheadY_start n h0 h1; have hq : n / 366 = n.tdiv 366 := (Int.tdiv_eq_ediv_of_nonneg h0).symm; have hq0 : 0 ≤ n / 366 := by omega
 obtain ⟨Y, eY, h2, h3, h4, h5⟩ := yearFrom_spec n h1 8030 (1970 + n / 366) (by omega) hs2 hs (by omega); have h13 := aheadM_13 Y; obtain ⟨M, eM, h6, h7, h8, h9⟩ := monthFrom_spec Y (n - aheadY Y) (by omega) 12 1 (by omega) (by omega) (by rw [aheadM_1]; omega) (by omega); have hl := aheadM_len Y M h6 h7; have hrM := aheadM_range Y M (by omega) (by omega); have hrM1 := aheadM_range Y (M + 1) (by omega) (by omega); have hrY := aheadY_range Y (by omega) (by omega); obtain ⟨R, hR⟩ : ∃ R, dateOf n = R := ⟨_, rfl⟩
 rw [hR]; unfold dateOf at hR; simp only [eY, eM] at hR; rw [hq] at eY hs hs2 h2 hq0; have HR := Lib.hid hR; have HY := Lib.hid eY; have HM := Lib.hid eM; have HF := Lib.hid (And.intro h4 (And.intro h5 (And.intro h8 h9))); have HS := Lib.hid hs; clear hq; clear hR eY eM h4 h5 h8 h9 hs h13 hl; go_enter Tryz.func355, Tryz.ntmps355
 go_wp2_with fail; go_loopw [3] (fun i wr => ∃ (y : Int) (f : Nat), i = .int .i64 y ∧ 1970 ≤ y ∧ y ≤ 9999 ∧ Ext w wr ∧ yearFrom n f y = Y ∧ 9999 - y ≤ f) (fun i _ => 9999 - (intOf i).toNat)
 case atStart => exact ⟨1970 + n.tdiv 366, 8030, rfl, by omega, hs2, Ext.refl _, HY.out, by omega⟩
 case round =>
  obtain ⟨y, f, rfl, hy0, hy1, hE, hrun, hf⟩ := hrel; have HRUN := Lib.hid hrun; have hry := aheadY_range (y + 1) (by omega) (by omega); clear hrun; by_cases hle : aheadY (y + 1) ≤ n
  · have hy9 : y + 1 ≤ 9999 := by
     by_cases hy : y = 9999
     · subst hy; have : aheadY (9999 + 1) = 2932897 := by decide
       omega
     · omega
    obtain ⟨f', rfl⟩ : ∃ f', f = f' + 1 := ⟨f - 1, by omega⟩
    have hrun := HRUN.out; unfold yearFrom at hrun; rw [if_pos hle] at hrun; have HRUN2 := Lib.hid hrun; have HY1 : RowKit.Hid (∃ a, aheadY (y + 1) = a ∧ a ≤ n) := Lib.hid ⟨_, rfl, hle⟩; obtain ⟨a, ha, hale⟩ := HY1.out; have HA := Lib.hid ha; clear hrun hle ha HRUN hry; go_wp2_with fail; refine (years_any (y + 1) _ (by omega) (by omega)).mono ?_; rw [HA.out]; rintro e w' ⟨rfl, rfl⟩; go_wp2; go_roundw
    case rel => exact ⟨y + 1, f', rfl, by omega, hy9, hE, HRUN2.out, by omega⟩
    case measure => simp [intOf]; omega
  · have hyY : y = Y := by
     have hrun := HRUN.out; cases f with
     | zero => exact hrun
     | succ f' =>
      unfold yearFrom at hrun
      rwa [if_neg hle] at hrun
    subst hyY; obtain ⟨a, ha⟩ : ∃ a, aheadY (y + 1) = a := ⟨_, rfl⟩
    rw [ha] at hle; have HA := Lib.hid ha; obtain ⟨b, hb⟩ : ∃ b, aheadY y = b := ⟨_, rfl⟩
    have HB := Lib.hid hb; rw [hb] at hrY; have hF := HF.out; rw [hb] at HR HM hF; obtain ⟨hF1, hF2, hF3, hF4⟩ := hF; have HF2 := Lib.hid (And.intro hF3 hF4); clear ha hb hry HF hF2 hF3 hF4; go_wp2_with fail; refine (years_any (y + 1) _ (by omega) (by omega)).mono ?_; rw [HA.out]; rintro e w' ⟨rfl, rfl⟩; go_wp2_with fail; refine (years_any y _ (by omega) (by omega)).mono ?_; rw [HB.out]; rintro e w' ⟨rfl, rfl⟩; go_wp2_with fail
    rename World => w1
    have hnb : 0 ≤ n - b := by omega
    go_loopw [4] (fun i wr => ∃ (m : Int) (f : Nat), i = .int .i64 m ∧ 1 ≤ m ∧ m ≤ 12 ∧ Ext w wr ∧ monthFrom y (n - b) f m = M ∧ 12 - m ≤ f) (fun i _ => 12 - (intOf i).toNat)
    case atStart => exact ⟨1, 12, rfl, by omega, by omega, hE, HM.out, by omega⟩
    case round =>
     obtain ⟨m, f2, rfl, hm0, hm1, hE2, hrun2, hf2⟩ := hrel; have HRUN3 := Lib.hid hrun2; have hrm := aheadM_range y (m + 1) (by omega) (by omega); clear hrun2; by_cases hle2 : aheadM y (m + 1) ≤ n - b
     · have hm9 : m + 1 ≤ 12 := by
        by_cases hm : m = 12
        · exfalso
          subst hm; have h13 := aheadM_13 y; rw [HA.out, HB.out] at h13; have e : (12 : Int) + 1 = 13 := rfl; rw [e] at hle2; omega
        · omega
       obtain ⟨f', rfl⟩ : ∃ f', f2 = f' + 1 := ⟨f2 - 1, by omega⟩
       have hrun2 := HRUN3.out; unfold monthFrom at hrun2; rw [if_pos hle2] at hrun2; have HRUN4 := Lib.hid hrun2; obtain ⟨c, hc⟩ : ∃ c, aheadM y (m + 1) = c := ⟨_, rfl⟩
       rw [hc] at hle2; have HC := Lib.hid hc; clear hrun2 hc HRUN3 hrm; go_wp2_with fail; refine (ahead_any y (m + 1) _ (by omega) (by omega) (by omega) (by omega)).mono ?_; rw [HC.out]; rintro e w2 ⟨rfl, hE3⟩; go_wp2; go_roundw
       case rel => exact ⟨m + 1, f', rfl, by omega, hm9, hE2.trans hE3, HRUN4.out, by omega⟩
       case measure => simp [intOf]; omega
     · have hmM : m = M := by
        have hrun2 := HRUN3.out; cases f2 with
        | zero => exact hrun2
        | succ f' =>
         unfold monthFrom at hrun2
         rwa [if_neg hle2] at hrun2
       subst hmM; obtain ⟨c, hc⟩ : ∃ c, aheadM y (m + 1) = c := ⟨_, rfl⟩
       rw [hc] at hle2; have HC := Lib.hid hc; obtain ⟨d, hd⟩ : ∃ d, aheadM y m = d := ⟨_, rfl⟩
       have HD := Lib.hid hd; rw [hd] at hrM; have hR := HR.out; rw [hd] at hR; have HR2 := Lib.hid hR; clear hc hd hrm hR; go_wp2_with fail; refine (ahead_any y (m + 1) _ (by omega) (by omega) (by omega) (by omega)).mono ?_; rw [HC.out]; rintro e w2 ⟨rfl, hE3⟩; go_wp2_with fail; refine (ahead_any y m _ (by omega) (by omega) (by omega) (by omega)).mono ?_; rw [HD.out]; rintro e w3 ⟨rfl, hE4⟩; go_wp2; go_ret; refine ⟨?_, hE2.trans (hE3.trans hE4)⟩; rw [← HR2.out]; first | rfl | (simp; omega)
end
section
open Go Go.RowKit
set_option maxHeartbeats 1600000
attribute [local go_sem] ba_get
def OwnS (w : World) (base : Nat) (v : Value) (s : List UInt8) : Prop := w.ownsRow base 5 1 v s.length (cellsOf s)
theorem OwnS.nil (w : World) (base : Nat) : OwnS w base (.slice none 0 0) [] := World.ownsRow_nil w base 5 1
theorem OwnS.block {w : World} {base : Nat} {v : Value} {l : List UInt8} (h : OwnS w base v l) {k : Nat} (hk : v.ownBlock = some k) : base ≤ k := by
 rcases h.2 with ⟨rfl, _⟩ | ⟨g, cap, cur, rfl, hb, _⟩
 · simp [Value.ownBlock] at hk
 · simp only [Value.ownBlock, Option.some.injEq] at hk; omega
theorem OwnS.ext {w w' : World} {base : Nat} {v : Value} {l : List UInt8} (h : OwnS w base v l) (hE : Ext w w') : OwnS w' base v l := by
 refine ⟨h.1, ?_⟩; rcases h.2 with h0 | ⟨g, cap, cur, hv, hb, hg, rest⟩
 · exact .inl h0
 · exact .inr ⟨g, cap, cur, hv, hb, hE.heap hg, rest⟩
theorem inDigits_length (k : Nat) : ∀ n, (inDigits n k).length = k := by
 induction k with
 | zero => intro n; rfl
 | succ k ih => intro n; simp [inDigits, ih]
theorem OwnS.put {w' : World} {base : Nat} {v : Value} {s : List UInt8} {x : UInt8} (h : w'.ownsRow base 5 1 v (s.length + 1) (cellsOf s ++ [.int .u8 (x.toNat : Int)])) : OwnS w' base v (s ++ [x]) := by
 unfold OwnS; rw [List.length_append, cellsOf_append]; exact h
theorem grown_alloc {w w' : World} {o : Obj} {row : Option Nat} (h : (w.alloc o).grownBy w' row) : w.grownBy w' row :=
 ⟨h.os, h.tape, h.output, by have := h.size; simp at this; omega, fun k hk hne => (h.block k (by simp; omega) hne).trans (Below.heap_alloc _ _ _ hk)⟩
theorem grown_two {a b c : World} {v v1 : Value} (h1 : a.grownBy b v.ownBlock) (hv : ∀ g, v1.ownBlock = some g → v.ownBlock = some g ∨ a.heap.size ≤ g) (h2 : b.grownBy c v1.ownBlock) : a.grownBy c v.ownBlock :=
 ⟨h2.os.trans h1.os, h2.tape.trans h1.tape, h2.output.trans h1.output, Nat.le_trans h1.size h2.size, fun k hk hne => by
  have hk2 := h1.size; refine (h2.block k (by omega) (fun e => ?_)).trans (h1.block k hk hne); rcases hv k e.symm with h | h
  · exact hne h.symm
  · omega⟩
theorem digitOf (n : Nat) : ((UInt8.ofNat (48 + n % 10)).toNat : Int) = 48 + (n : Int) % 10 := by
 rw [UInt8.toNat_ofNat']; omega
theorem digitsW_calls (k : Nat) : ∀ (n : Nat) (v : Value) (s : List UInt8) (w : World) (base : Nat), n ≤ 9223372036854775807 → OwnS w base v s → base ≤ w.heap.size → s.length + k ≤ 1000 →
 Calls Tryz.prog 354 #[v, .int .i64 n, .int .i64 ((k : Int) + 1)] w fun e w' => (∃ v', e = .returned v' ∧ OwnS w' base v' (s ++ inDigits n (k + 1)) ∧ (∀ g, v'.ownBlock = some g → v.ownBlock = some g ∨ w.heap.size ≤ g)) ∧ w.grownBy w' v.ownBlock := by
 induction k with
 | zero =>
  intro n v s w base hn hown hbase hlen; have HOWN := Lib.hid hown; obtain ⟨i0, hi0, hz0, hz1, hz2⟩ := info_parts infoU8; have HI := Lib.hid (And.intro hi0 (And.intro hz0 (And.intro hz1 hz2))); obtain ⟨x, hx⟩ : ∃ x, x = UInt8.ofNat (48 + n % 10) := ⟨_, rfl⟩
  have hxi : (x.toNat : Int) = 48 + (n : Int) % 10 := by rw [hx]; exact digitOf n
  have hin : inDigits n (0 + 1) = [x] := by rw [hx]; rfl
  rw [hin]; obtain ⟨r, hr⟩ : ∃ r, (n : Int).tmod 10 = r := ⟨_, rfl⟩
  have hr2 : (n : Int) % 10 = r := by rw [← hr, Int.tmod_eq_emod_of_nonneg (by omega)]
  have hr0 : 0 ≤ r := by omega
  have hr9 : r ≤ 9 := by omega
  rw [hr2] at hxi; have HR := Lib.hid hxi; clear hown hi0 hz0 hz1 hz2 hx hxi hin hr2; go_enter Tryz.func354, Tryz.ntmps354
  have hcells : ∀ j u, ([.int .u8 (48 + r)] : List Value)[j]? = some u → (w.alloc (.cells #[.int .u8 (48 + r)] 5)).cell? ((⟨w.heap.size, 0, none⟩ : Addr).add j) = some u :=
   World.news_of_block (cs := #[.int .u8 (48 + r)]) (t := 5) (fr := (0, 0)) (heap_alloc_new _ _)
  have HC := Lib.hid hcells; have HO1 := Lib.hid ((HOWN.out).ext ((Ext.refl w).alloc (.cells #[.int .u8 (48 + r)] 5))); have HSZ : RowKit.Hid (base ≤ (w.alloc (.cells #[.int .u8 (48 + r)] 5)).heap.size) := Lib.hid (by simp; omega); clear hcells; go_wp2_with (first | (at_builtin; refine wpList_append_lies _ rfl (.tmp 15) (.tmp 20) 25 rfl base 5 i0 _ 1 1 Tryz.underlying25 HI.out.1 HI.out.2.1 HI.out.2.2.1 HI.out.2.2.2 rfl (by decide) _ _ _ rfl HO1.out ⟨w.heap.size, 0, none⟩ 1 1 [.int .u8 (48 + r)] rfl rfl HC.out (by intro u hu; simp at hu; subst hu; rfl) (by decide) (by simp only [maxLen]; omega) (by omega) HSZ.out _ rfl ?_; intro g9 c9 w9 hown9 hg9 hat9 hlt9; have HOWN9 := Lib.hid hown9; have HG9 := Lib.hid hg9; have HAT9 := Lib.hid hat9; clear hown9 hg9 hat9 hlt9)); go_ret; refine ⟨⟨_, rfl, ?_, ?_⟩, ?_⟩
  · have h9 := HOWN9.out; rw [← HR.out] at h9; exact OwnS.put h9
  · intro g hg; have e : g9 = g := by injection hg
    subst e; rcases HAT9.out with h | h
    · exact .inl h
    · right; rw [h]; simp
  · exact grown_alloc HG9.out
 | succ k ih =>
  intro n v s w base hn hown hbase hlen; have HOWN := Lib.hid hown; obtain ⟨i0, hi0, hz0, hz1, hz2⟩ := info_parts infoU8; have HI := Lib.hid (And.intro hi0 (And.intro hz0 (And.intro hz1 hz2))); obtain ⟨x, hx⟩ : ∃ x, x = UInt8.ofNat (48 + n % 10) := ⟨_, rfl⟩
  have hxi : (x.toNat : Int) = 48 + (n : Int) % 10 := by rw [hx]; exact digitOf n
  have hin : inDigits n (k + 1 + 1) = inDigits (n / 10) (k + 1) ++ [x] := by rw [hx]; rfl
  rw [hin]; obtain ⟨r, hr⟩ : ∃ r, (n : Int).tmod 10 = r := ⟨_, rfl⟩
  have hr2 : (n : Int) % 10 = r := by rw [← hr, Int.tmod_eq_emod_of_nonneg (by omega)]
  have hr0 : 0 ≤ r := by omega
  have hr9 : r ≤ 9 := by omega
  rw [hr2] at hxi; have HR := Lib.hid hxi; have hq : (n : Int).tdiv 10 = ((n / 10 : Nat) : Int) := by rw [Int.tdiv_eq_ediv_of_nonneg (by omega)]; omega
  have hih := ih (n / 10) v s w base (by omega) hown hbase (by omega); have hcast : ((n / 10 : Nat) : Int) = (n : Int) / 10 := by omega
  rw [hcast] at hih; have HIH := Lib.hid hih; have hk1 : (1 : Int) < ((k + 1 : Nat) : Int) + 1 := by omega
  have hk2 : ((k + 1 : Nat) : Int) + 1 - 1 = (k : Int) + 1 := by omega
  have hl : (s ++ inDigits (n / 10) (k + 1)).length ≤ 1000 := by rw [List.length_append, inDigits_length]; omega
  have HL := Lib.hid hl; clear hl; clear hown hi0 hz0 hz1 hz2 hx hxi hin hr2 hih ih hcast hq; go_enter Tryz.func354, Tryz.ntmps354
  go_wp2_with fail; refine HIH.out.mono ?_; rintro e w1 ⟨⟨v1, rfl, hown1, hv1⟩, hb1⟩; have HV1 := Lib.hid hv1; clear hv1; have HOWN1 := Lib.hid hown1; have HB1 := Lib.hid hb1; have HS1 : RowKit.Hid (s ++ (inDigits (n / 10) (k + 1) ++ [x]) = (s ++ inDigits (n / 10) (k + 1)) ++ [x]) := Lib.hid (by simp); generalize s ++ inDigits (n / 10) (k + 1) = s1 at *; have hbase1 : base ≤ w1.heap.size := Nat.le_trans hbase hb1.size; clear hown1 hb1; have hcells : ∀ j u, ([.int .u8 (48 + r)] : List Value)[j]? = some u → (w1.alloc (.cells #[.int .u8 (48 + r)] 5)).cell? ((⟨w1.heap.size, 0, none⟩ : Addr).add j) = some u :=
   World.news_of_block (cs := #[.int .u8 (48 + r)]) (t := 5) (fr := (0, 0)) (heap_alloc_new _ _)
  have HC := Lib.hid hcells; have HO1 := Lib.hid ((HOWN1.out).ext ((Ext.refl w1).alloc (.cells #[.int .u8 (48 + r)] 5))); have HSZ : RowKit.Hid (base ≤ (w1.alloc (.cells #[.int .u8 (48 + r)] 5)).heap.size) := Lib.hid (by simp; omega); clear hcells; go_wp2_with (first | (at_builtin; refine wpList_append_lies _ rfl (.tmp 15) (.tmp 20) 25 rfl base 5 i0 _ 1 1 Tryz.underlying25 HI.out.1 HI.out.2.1 HI.out.2.2.1 HI.out.2.2.2 rfl (by decide) _ _ _ rfl HO1.out ⟨w1.heap.size, 0, none⟩ 1 1 [.int .u8 (48 + r)] rfl rfl HC.out (by intro u hu; simp at hu; subst hu; rfl) (by decide) (by simp only [maxLen]; have := HL.out; omega) (by have := HL.out; omega) HSZ.out _ rfl ?_; intro g9 c9 w9 hown9 hg9 hat9 hlt9; have HOWN9 := Lib.hid hown9; have HG9 := Lib.hid hg9; have HAT9 := Lib.hid hat9; clear hown9 hg9 hat9 hlt9)); go_ret; refine ⟨⟨_, rfl, ?_, ?_⟩, ?_⟩
  · have h9 := HOWN9.out; rw [← HR.out] at h9; rw [HS1.out]; exact OwnS.put h9
  · intro g hg; have e : g9 = g := by injection hg
    subst e; rcases HAT9.out with h | h
    · exact HV1.out _ h
    · right; rw [h]; have := HB1.out.size; simp; omega
  · exact grown_two HB1.out HV1.out (grown_alloc HG9.out)
end
section
open Go Go.RowKit
set_option maxHeartbeats 1600000
attribute [local go_sem] ba_get
theorem OwnS.ne {w : World} {base b : Nat} {v : Value} {s : List UInt8} {cs : Array Value} {t : TypeId} {fr : Nat × Nat} (h : OwnS w base v s) (hb : w.heap[b]? = some (.cells cs t fr)) (ht : t ≠ 5) : v.ownBlock ≠ some b := by
 rcases h.2 with ⟨rfl, _⟩ | ⟨g, cap, cur, rfl, _, hg, _⟩
 · simp [Value.ownBlock]
 · intro e; simp only [Value.ownBlock, Option.some.injEq] at e; subst e; rw [hb] at hg; simp only [Option.some.injEq, Obj.cells.injEq] at hg; exact ht hg.2.1
theorem ne_of_at {v : Value} {h g H : Nat} (hne : v.ownBlock ≠ some h) (hH : h < H) (hat : v.ownBlock = some g ∨ g = H) : ¬ h = g := by
 rintro rfl; rcases hat with h1 | h1
 · exact hne h1
 · omega
def maxMs : Int := 253402300799999
theorem isTime_calls (ms : Int) (w : World) : Calls Tryz.prog 353 #[.int .i64 ms] w fun e w' => e = .returned (.bool (decide (0 ≤ ms) && decide (ms ≤ maxMs))) ∧ w = w' := by
 unfold maxMs; by_cases h1 : 0 ≤ ms
 · rw [decide_eq_true h1, Bool.true_and]; go_enter Tryz.func353, Tryz.ntmps353
   go_wp2; go_ret; exact ⟨rfl, rfl⟩
 · rw [decide_eq_false h1, Bool.false_and]; go_enter Tryz.func353, Tryz.ntmps353
   go_wp2; go_ret; exact ⟨rfl, rfl⟩
def partsOf (left : Nat) : List (UInt8 × Nat × Nat) := [(45, left / 3600000, 2), (58, left / 60000 % 60, 2), (58, left / 1000 % 60, 2), (46, left % 1000, 3)]
def partText (p : UInt8 × Nat × Nat) : List UInt8 := p.1 :: inDigits p.2.1 p.2.2
def partCells (l : List (UInt8 × Nat × Nat)) : List Value := l.flatMap fun p => [.int .u8 (p.1.toNat : Int), .int .i64 (p.2.1 : Int), .int .i64 (p.2.2 : Int)]
theorem partCells_at (l : List (UInt8 × Nat × Nat)) (k : Nat) (h : k < l.length) : (partCells l)[k * 3]? = some (.int .u8 ((l[k]).1.toNat : Int)) ∧ (partCells l)[k * 3 + 1]? = some (.int .i64 ((l[k]).2.1 : Int)) ∧ (partCells l)[k * 3 + 2]? = some (.int .i64 ((l[k]).2.2 : Int)) := by
 induction l generalizing k with
 | nil => simp at h
 | cons f l ih =>
  have hc : partCells (f :: l) = .int .u8 (f.1.toNat : Int) :: .int .i64 (f.2.1 : Int) :: .int .i64 (f.2.2 : Int) :: partCells l := rfl; cases k with
  | zero => rw [hc]; exact ⟨rfl, rfl, rfl⟩
  | succ k =>
   have h1 : (k + 1) * 3 = k * 3 + 1 + 1 + 1 := by omega
   rw [hc, h1]; simpa using ih k (by simpa using h)
theorem parts_ok (left : Nat) (h : left < 86400000) : ∀ p ∈ partsOf left, p.2.1 ≤ 1000000 ∧ 1 ≤ p.2.2 ∧ p.2.2 ≤ 3 := by
 intro p hp; simp only [partsOf, List.mem_cons, List.mem_nil_iff, or_false] at hp; rcases hp with rfl | rfl | rfl | rfl <;> (dsimp only; omega)
theorem stampOf_eq (ms : Int) : stampOf ms = inDigits (dateOf (ms / dayMs)).toNat 8 ++ ((partsOf (ms % dayMs).toNat).map partText).flatten := by
 unfold stampOf partsOf partText; simp
theorem stamp_bad (ms : Int) (w : World) (h : ¬ (0 ≤ ms ∧ ms ≤ maxMs)) : Calls Tryz.prog 261 #[.int .i64 ms] w fun e w' => e = .returned (.tuple #[.string ⟨#[]⟩, .int .i64 20]) ∧ Ext w w' := by
 have hb : (decide (0 ≤ ms) && decide (ms ≤ maxMs)) = false := by
  rw [Bool.eq_false_iff]; simpa using h
 have HB := Lib.hid hb; clear hb h; go_enter Tryz.func261, Tryz.ntmps261
 go_wp2_with fail; refine (isTime_calls ms _).mono ?_; rw [HB.out]; rintro e w' ⟨rfl, rfl⟩; go_wp2; go_ret2; exact ⟨rfl, Ext.refl _⟩
theorem stamp_good (ms : Int) (w : World) (h0 : 0 ≤ ms) (h1 : ms ≤ maxMs) : Calls Tryz.prog 261 #[.int .i64 ms] w fun e w' => e = .returned (.tuple #[.string ⟨(stampOf ms).toArray⟩, .int .i64 0]) ∧ Ext w w' := by
 unfold maxMs at h1; have hq : ms.tdiv 86400000 = ms / 86400000 := Int.tdiv_eq_ediv_of_nonneg h0; have hm : ms.tmod 86400000 = ms % 86400000 := Int.tmod_eq_emod_of_nonneg h0; obtain ⟨d, hd⟩ : ∃ d, ms / 86400000 = d := ⟨_, rfl⟩
 obtain ⟨left, hleft⟩ : ∃ l : Nat, ms % 86400000 = (l : Int) := ⟨(ms % 86400000).toNat, by omega⟩
 have hd0 : 0 ≤ d := by omega
 have hd1 : d ≤ 2932896 := by omega
 have hl0 : left < 86400000 := by omega
 obtain ⟨D, hD⟩ : ∃ D : Nat, dateOf d = (D : Int) := ⟨(dateOf d).toNat, by have := (dayOf_dateOf d hd0 hd1).2.1; omega⟩
 have hst : stampOf ms = inDigits D 8 ++ ((partsOf left).map partText).flatten := by
  rw [stampOf_eq]; unfold dayMs; rw [hd, hD, hleft]; rfl
 rw [hst]; have hD1 : D ≤ 99991231 := by have := (dayOf_dateOf d hd0 hd1).2.2; omega
 have hb : (decide (0 ≤ ms) && decide (ms ≤ maxMs)) = true := by unfold maxMs; simp; omega
 have hdate := dateOf_calls d w hd0 hd1; rw [hD] at hdate; have HDATE := Lib.hid hdate; have HB := Lib.hid hb; rw [hd] at hq; rw [hleft] at hm; clear hdate hb hst hD hd hleft; go_enter Tryz.func261, Tryz.ntmps261
 go_wp2_with fail; refine (isTime_calls ms _).mono ?_; rw [HB.out]; rintro e w' ⟨rfl, rfl⟩; go_wp2_with fail; refine HDATE.out.mono ?_; rintro e w1 ⟨rfl, hE1⟩; have hdg := digitsW_calls 7 D (.slice none 0 0) [] w1 w1.heap.size (by omega) (OwnS.nil _ _) (Nat.le_refl _) (by simp); have HDG := Lib.hid hdg; clear hdg; go_wp2_with fail; refine HDG.out.mono ?_; rintro e w2 ⟨⟨v, rfl, hown, hv⟩, hg2⟩; have hE2 : Ext w1 w2 := Below.grown (Below.refl _ _) hg2 (Nat.le_refl _) (fun k hk => by simp [Value.ownBlock] at hk); have hX := hE1.trans hE2; clear hv hg2; rw [List.nil_append] at hown; have hcells : (w2.alloc (.cells (partCells (partsOf left)).toArray 290)).heap[w2.heap.size]? = some (.cells (partCells (partsOf left)).toArray 290) := heap_alloc_new _ _; have hown2 := hown.ext ((Ext.refl w2).alloc (.cells (partCells (partsOf left)).toArray 290)); have hbel : Below w1.heap.size w1 (w2.alloc (.cells (partCells (partsOf left)).toArray 290)) := hE2.alloc _; have HO := Lib.hid hown2; have HC := Lib.hid hcells; have HBEL := Lib.hid hbel; have hpc : (partCells (partsOf left)).toArray = #[.int .u8 45, .int .i64 ((left : Int) / 3600000), .int .i64 2, .int .u8 58, .int .i64 ((left : Int) / 60000 % 60), .int .i64 2, .int .u8 58, .int .i64 ((left : Int) / 1000 % 60), .int .i64 2, .int .u8 46, .int .i64 ((left : Int) % 1000), .int .i64 3] := by
  simp [partCells, partsOf]
 have HPC := Lib.hid hpc; clear hown hown2 hcells hbel hpc hE2; go_wp2_with fail; rw [← HPC.out]; generalize w2.alloc (.cells (partCells (partsOf left)).toArray 290) = w3 at *; have hpl : (partsOf left).length = 4 := rfl; have hpo := parts_ok left hl0; generalize hpsd : partsOf left = ps at *; have HPSD := Lib.hid hpsd; clear hpsd; generalize w2.heap.size = T at *; have HPL := Lib.hid hpl; have HPO := Lib.hid hpo; clear hpl hpo; go_loopw [4, 33] (fun v i wr => ∃ k : Nat, k ≤ 4 ∧ i = .int .i64 k ∧ OwnS wr w1.heap.size v (inDigits D 8 ++ ((ps.take k).map partText).flatten) ∧ wr.heap[T]? = some (.cells (partCells ps).toArray 290) ∧ Below w1.heap.size w1 wr ∧ (inDigits D 8 ++ ((ps.take k).map partText).flatten).length ≤ 8 + 4 * k) (fun _ i _ => 4 - (intOf i).toNat)
 case atStart => exact ⟨0, by omega, rfl, by simpa using HO.out, HC.out, HBEL.out, by simp [inDigits_length]⟩
 case round =>
  obtain ⟨k, hk, rfl, hown, htab, hbel, hlen⟩ := hrel; have HOWN := Lib.hid hown; have HTAB := Lib.hid htab; have HBEL2 := Lib.hid hbel; have HLEN := Lib.hid hlen; clear hown htab hbel hlen; by_cases hlt : k < 4
  · have hkl : k < ps.length := by rw [HPL.out]; exact hlt
    obtain ⟨c0, c1, c2⟩ := partCells_at ps k hkl; have htk : ps.take (k + 1) = ps.take k ++ [ps[k]] := List.take_succ_eq_append_getElem hkl; obtain ⟨hp1, hp2, hp3⟩ := HPO.out ps[k] (List.getElem_mem hkl); have q0 : wr.cell? ⟨T, k * 3, none⟩ = some (.int .u8 ((ps[k]).1.toNat : Int)) := by rw [cell_of_row _ _ _ _ _ (0, 0) HTAB.out]; simpa using c0
    have q1 : wr.cell? ⟨T, k * 3 + 1, none⟩ = some (.int .i64 ((ps[k]).2.1 : Int)) := by rw [cell_of_row _ _ _ _ _ (0, 0) HTAB.out]; simpa using c1
    have q2 : wr.cell? ⟨T, k * 3 + 2, none⟩ = some (.int .i64 ((ps[k]).2.2 : Int)) := by rw [cell_of_row _ _ _ _ _ (0, 0) HTAB.out]; simpa using c2
    have HTK := Lib.hid htk; clear c0 c1 c2 htk; generalize hps : ps[k] = p at *; have HP := Lib.hid hps; obtain ⟨mk, pn, pz⟩ := p; dsimp only at hp1 hp2 hp3 q0 q1 q2; obtain ⟨z, rfl⟩ : ∃ z, pz = z + 1 := ⟨pz - 1, by omega⟩
    clear hps; generalize hsd : inDigits D 8 ++ ((ps.take k).map partText).flatten = s at *; have HSD := Lib.hid hsd; clear hsd; go_wp2_with fail; refine wp_gen fun w5 hw5 => ?_
    have hE5 : Ext wr w5 := by rw [← hw5]; exact (Ext.refl wr).alloc _
    have hc5 : w5.heap[wr.heap.size]? = some (.cells #[.int .u8 (mk.toNat : Int), .int .i64 pn, .int .i64 ((z : Int) + 1)] 290) := by rw [← hw5]; exact heap_alloc_new _ _
    obtain ⟨hq, _⟩ := blk_facts hc5; have m0 := hq 0; have m1 := hq 1; have m2 := hq 2; simp at m0 m1 m2; have HO5 := Lib.hid (HOWN.out.ext hE5); have HT5 := Lib.hid (hE5.heap HTAB.out); have HB5 := Lib.hid (HBEL2.out.trans (Below.mono hE5 HBEL2.out.size)); have hh5 : wr.heap.size < w5.heap.size := (Array.getElem?_eq_some_iff.1 hc5).1; have hbs : w1.heap.size ≤ w5.heap.size := HB5.out.size; have hne := HO5.out.ne hc5 (by decide); have HNE := Lib.hid hne; clear hq hc5 hw5 hE5 q0 q1 q2 hne; generalize wr.heap.size = h at *; obtain ⟨i0, hi0, hz0, hz1, hz2⟩ := info_parts infoU8; have HI := Lib.hid (And.intro hi0 (And.intro hz0 (And.intro hz1 hz2))); clear hi0 hz0 hz1 hz2; have HOa : RowKit.Hid (OwnS (w5.drew.alloc (.cells #[.int .u8 (mk.toNat : Int)] 5)) w1.heap.size _ s) := Lib.hid (HO5.out.ext ((Ext.refl w5).drew.alloc _)); have HCa : RowKit.Hid (∀ j u, ([.int .u8 (mk.toNat : Int)] : List Value)[j]? = some u → (w5.drew.alloc (.cells #[.int .u8 (mk.toNat : Int)] 5)).cell? ((⟨w5.heap.size, 0, none⟩ : Addr).add j) = some u) :=
     Lib.hid (World.news_of_block (cs := #[.int .u8 (mk.toNat : Int)]) (t := 5) (fr := (0, 0)) (heap_alloc_new w5.drew _))
    have HLEN5 := Lib.hid hlt; go_region_held3 (fun w' => w'.cell? ⟨h, 0, none⟩ = some (.int .u8 (mk.toNat : Int)) ∧ w'.cell? ⟨h, 1, none⟩ = some (.int .i64 pn) ∧ w'.cell? ⟨h, 2, none⟩ = some (.int .i64 ((z : Int) + 1)))
     (first | go_keep | (exact ⟨(hg7.cell_far ⟨h, 0, none⟩ (by have := hg6.size; simp at this; simp; omega) (by simpa [Value.ownBlock] using hne6)).trans k0, (hg7.cell_far ⟨h, 1, none⟩ (by have := hg6.size; simp at this; simp; omega) (by simpa [Value.ownBlock] using hne6)).trans k1, (hg7.cell_far ⟨h, 2, none⟩ (by have := hg6.size; simp at this; simp; omega) (by simpa [Value.ownBlock] using hne6)).trans k2⟩) | (exact ⟨(hg6.cell_far ⟨h, 0, none⟩ (by simp; omega) (Ne.symm HNE.out)).trans (((Ext.refl w5).drew.alloc _).cell m0), (hg6.cell_far ⟨h, 1, none⟩ (by simp; omega) (Ne.symm HNE.out)).trans (((Ext.refl w5).drew.alloc _).cell m1), (hg6.cell_far ⟨h, 2, none⟩ (by simp; omega) (Ne.symm HNE.out)).trans (((Ext.refl w5).drew.alloc _).cell m2)⟩))
     (first
       | (refine step_append_lies _ (by rfl) _ _ _ (by rfl) w1.heap.size 5 i0 _ 1 1 Tryz.underlying25 HI.out.1 HI.out.2.1 HI.out.2.2.1 HI.out.2.2.2 rfl (by decide) _ _ _ (by rfl) HOa.out ⟨w5.heap.size, 0, none⟩ 1 1 [.int .u8 (mk.toNat : Int)] (by rfl) (by rfl) HCa.out (by intro u hu; simp at hu; subst hu; rfl) (by decide) (by simp only [maxLen]; have := HLEN.out; omega) (by have := HLEN.out; omega) (by simp; omega) _ rfl ?_; intro g6 c6 w6 hown6 hg6 hat6 hlt6; have hne6 := ne_of_at HNE.out (Nat.lt_of_lt_of_le hh5 (((Ext.refl w5).alloc (.cells #[.int .u8 (mk.toNat : Int)] 5)).size)) hat6; have k0 : w6.cell? ⟨h, 0, none⟩ = some (.int .u8 (mk.toNat : Int)) := (hg6.cell_far ⟨h, 0, none⟩ (by simp; omega) (Ne.symm HNE.out)).trans (((Ext.refl w5).drew.alloc _).cell m0); have k1 : w6.cell? ⟨h, 1, none⟩ = some (.int .i64 pn) := (hg6.cell_far ⟨h, 1, none⟩ (by simp; omega) (Ne.symm HNE.out)).trans (((Ext.refl w5).drew.alloc _).cell m1); have k2 : w6.cell? ⟨h, 2, none⟩ = some (.int .i64 ((z : Int) + 1)) := (hg6.cell_far ⟨h, 2, none⟩ (by simp; omega) (Ne.symm HNE.out)).trans (((Ext.refl w5).drew.alloc _).cell m2))
       | (go_at_call 354; refine (digitsW_calls z pn _ (s ++ [mk]) _ w1.heap.size (by omega) (OwnS.put hown6) (by have := hg6.size; simp at this; omega) (by have := HLEN.out; rw [List.length_append]; simp; omega)).mono ?_; rintro e w7 ⟨⟨v7, rfl, hown7, hv7⟩, hg7⟩))
    have hT6 : w6.heap[T]? = some (.cells (partCells ps).toArray 290) := by
     refine (hg6.block T ?_ ?_).trans ((((Ext.refl w5).alloc (.cells #[.int .u8 (mk.toNat : Int)] 5)).drew).heap HT5.out)
     · have := (Array.getElem?_eq_some_iff.1 ((((Ext.refl w5).alloc (.cells #[.int .u8 (mk.toNat : Int)] 5)).drew).heap HT5.out)).1; exact this
     · exact Ne.symm (HO5.out.ne HT5.out (by decide))
    have hT7 : w7.heap[T]? = some (.cells (partCells ps).toArray 290) := by
     refine (hg7.block T (Array.getElem?_eq_some_iff.1 hT6).1 ?_).trans hT6; exact Ne.symm ((OwnS.put hown6).ne hT6 (by decide))
    have hB6 : Below w1.heap.size w1 w6 := Below.grown ((HB5.out.alloc hbs (.cells #[.int .u8 (mk.toNat : Int)] 5)).drew) hg6 (by simp; omega) (fun k hk => HO5.out.block hk); have hB7 : Below w1.heap.size w1 w7 := Below.grown hB6 hg7 hB6.size (fun k hk => (OwnS.put hown6).block hk); have hs7 : inDigits D 8 ++ ((ps.take (k + 1)).map partText).flatten = s ++ [mk] ++ inDigits pn (z + 1) := by
     rw [HTK.out, List.map_append, List.flatten_append, ← List.append_assoc, HSD.out]; simp [partText]
    go_wp2; go_roundw
    case rel => exact ⟨k + 1, by omega, by go_num, by rw [hs7]; exact hown7, hT7, hB7, by rw [hs7]; have := HLEN.out; simp [inDigits_length]; omega⟩
    case measure => simp [intOf]; omega
  · obtain rfl : k = 4 := by omega
    rw [List.take_of_length_le (by rw [HPL.out]; omega)] at HOWN HLEN; generalize hsd : inDigits D 8 ++ (ps.map partText).flatten = s at *; have HSD := Lib.hid hsd; clear hsd; rcases HOWN.out.2 with ⟨hv, h0⟩ | ⟨g, cp, cur, hv, hb, hg, hnc, hcm, hcs, htk⟩
    · have hs0 : s = [] := List.eq_nil_of_length_eq_zero h0; subst hs0 hv; have hX2 : Ext w wr := hE1.trans HBEL2.out; have hconv := conv_reads wr none [] 0 (Reads.none_ wr); simp only [List.length_nil] at hconv; go_wp2; go_ret2; exact ⟨by rw [HPSD.out, HSD.out]; rfl, hX2⟩
    · subst hv; have hrd : Reads wr (some ⟨g, 0, none⟩) s := Reads.of_block (fun i hi => by
       rw [Nat.zero_add, cell_of_row _ _ _ _ _ (0, 0) hg]; have h1 : (cur.toList.take (s.length * 1))[i]? = some (.int .u8 ((s[i]).toNat : Int)) := by rw [htk]; exact cellsOf_at hi
       rw [List.getElem?_take, if_pos (by omega)] at h1; simpa using h1)
      have hconv := conv_reads wr (some ⟨g, 0, none⟩) s cp hrd; have hX2 : Ext w wr := hE1.trans HBEL2.out; clear hrd hb hg hnc hcm hcs htk HOWN; go_wp2; go_ret2; exact ⟨by rw [HPSD.out, HSD.out]; rfl, hX2⟩
theorem stamp_calls (ms : Int) (w : World) : Calls Tryz.prog 261 #[.int .i64 ms] w fun e w' => e = .returned (if 0 ≤ ms ∧ ms ≤ maxMs then .tuple #[.string ⟨(stampOf ms).toArray⟩, .int .i64 0] else .tuple #[.string ⟨#[]⟩, .int .i64 20]) ∧ Ext w w' := by
 by_cases h : 0 ≤ ms ∧ ms ≤ maxMs
 · rw [if_pos h]; exact stamp_good ms w h.1 h.2
 · rw [if_neg h]; exact stamp_bad ms w h
end
section
open Go Go.RowKit
set_option maxHeartbeats 1600000
attribute [local go_sem] ba_get
attribute [local go_sem ↓] convRule
theorem natOf_take_lt' {s : List UInt8} {k : Nat} (hd : (s.take k).all isDigit = true) (hk : k ≤ s.length) : natOf (s.take k) < 10 ^ k := by
 have := natOf_lt hd
 rwa [List.length_take, Nat.min_eq_left hk] at this
theorem read_calls (s : List UInt8) (w : World) (hs : s.length ≤ 18) :
 Calls Tryz.prog 359 #[.string ⟨s.toArray⟩] w fun e w' => e = .returned (.int .i64 (readOf s)) ∧ Ext w w' := by
 obtain ⟨R, hR⟩ : ∃ R, readOf s = R := ⟨_, rfl⟩
 rw [hR]; have HR := Lib.hid hR; have ho := own_convert w 5 s (by omega); have hE1 : Ext w (Lib.bytesWorld w 5 ⟨s.toArray⟩) := Joins.below_bytesWorld _ _ _ _ (Nat.le_refl _); have HO := Lib.hid ho; have HE1 := Lib.hid hE1; clear hR ho hE1; go_enter Tryz.func359, Tryz.ntmps359
 go_wp2_with fail; generalize Lib.bytesWorld w 5 ⟨s.toArray⟩ = w1 at *; generalize grownCap w s.length 0 5 = c1 at *; generalize w.heap.size = g at *; go_loop [3, 9] (fun n i => ∃ k : Nat, k ≤ s.length ∧ i = .int .i64 k ∧ n = .int .i64 (natOf (s.take k)) ∧ (s.take k).all isDigit = true) (fun _ i => s.length - (intOf i).toNat)
 case atStart => exact ⟨0, by omega, rfl, rfl, rfl⟩
 case round =>
  obtain ⟨k, hk, rfl, rfl, hall⟩ := hrel; have HALL := Lib.hid hall; clear hall; by_cases hlt : k < s.length
  · have hc := HO.out.cells rfl k hlt; by_cases hd : isDigit s[k] = true
    · have HN := Lib.hid (all_take_succ' hlt HALL.out hd); have hnt := natOf_take (t := s) (k := k) hlt; have hbd := natOf_take_lt' HALL.out hk; have hbd2 : natOf (s.take k) < 100000000000000000 := by
       have : 10 ^ k ≤ 10 ^ 17 := Nat.pow_le_pow_right (by omega) (by omega); omega
      have HNT := Lib.hid hnt; rw [isDigit_iff] at hd; obtain ⟨hd1, hd2⟩ := hd; clear hnt hbd; generalize s[k] = c at *; generalize natOf (s.take k) = x at *; have hd1' : (48 : Int) ≤ (c.toNat : Int) := by omega
      have hd2' : (c.toNat : Int) ≤ 57 := by omega
      clear hd1 hd2; go_wp2; go_round
      case rel => exact ⟨k + 1, by omega, by go_num, by rw [HNT.out]; refine congrArg _ ?_; omega, HN.out⟩
      case measure => simp [intOf]; omega
    · have e : R = -1 := by
       rw [← HR.out]; unfold readOf; rw [if_neg (by rw [all_false hlt hd]; simp)]
      subst e; have hn := not_digit hd; clear hd; generalize s[k] = c at *; rcases hn with h1 | ⟨h1, h2⟩
      all_goals
       go_wp2; go_ret; exact ⟨rfl, HE1.out⟩
  · obtain rfl : k = s.length := by omega
    have e : R = natOf s := by
     rw [← HR.out]; unfold readOf; have := HALL.out; rw [List.take_length] at this; rw [if_pos this]
    rw [List.take_length]; subst e; go_wp2; go_ret; exact ⟨rfl, HE1.out⟩
end
end Go.Proofs.YtdmjinlgdkgoiaaGreatDoor
