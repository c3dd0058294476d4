/- Of the layer fix: RefText. -/
import Derived.Test.YtdmjinlgdkgoiaaGreatDoorFeAf
import Derived.Test.YtdmjinlgdkgoiaaGreatDoorFeAo
set_option linter.unusedVariables false
set_option linter.unusedSimpArgs false
set_option maxRecDepth 100000
namespace Go.Proofs.YtdmjinlgdkgoiaaGreatDoor
section
open Go Go.RowKit
set_option maxHeartbeats 1600000
attribute [local go_sem] ba_get
def ofS (s : List UInt8) (least most : Nat) (others : List UInt8) : Bool := s.all (fun c => nameSign c || others.contains c) && decide (least ≤ s.length) && decide (s.length ≤ most)
theorem sign_cases (c : UInt8) : nameSign c = true ∧ (c.toNat : Int) < 65 ∧ 48 ≤ (c.toNat : Int) ∧ (c.toNat : Int) ≤ 57 ∨ nameSign c = true ∧ 65 ≤ (c.toNat : Int) ∧ (c.toNat : Int) ≤ 90
 ∨ nameSign c = false ∧ (c.toNat : Int) < 65 ∧ (c.toNat : Int) < 48 ∨ nameSign c = false ∧ (c.toNat : Int) < 65 ∧ 48 ≤ (c.toNat : Int) ∧ 57 < (c.toNat : Int) ∨ nameSign c = false ∧ 65 ≤ (c.toNat : Int) ∧ 90 < (c.toNat : Int) ∧ 48 ≤ (c.toNat : Int) ∧ 57 < (c.toNat : Int) := by
 unfold nameSign isGreat isDigit; simp only [Bool.or_eq_true, Bool.and_eq_true, decide_eq_true_eq, UInt8.le_iff_toNat_le, Bool.or_eq_false_iff, Bool.and_eq_false_iff, decide_eq_false_iff_not]; simp
 omega
theorem contains_take_succ {l : List UInt8} {n : Nat} (h : n < l.length) (c : UInt8) : (l.take (n + 1)).contains c = ((l.take n).contains c || l[n] == c) := by
 rw [List.take_succ_eq_append_getElem h]; obtain ⟨x, hx⟩ : ∃ x, l[n] = x := ⟨_, rfl⟩
 rw [hx]; generalize l.take n = t; by_cases e : x = c
 · simp [e]
 · have e2 : ¬ c = x := fun h => e h.symm
   simp [e, e2]
theorem ofS_calls (s others : List UInt8) (least most : Nat) (w : World) (hs : s.length ≤ 140737488355328) (ho : others.length ≤ 100) (hl : least ≤ 100) (hm : most ≤ 100) :
 Calls Tryz.prog 285 #[.string ⟨s.toArray⟩, .int .i64 least, .int .i64 most, .string ⟨others.toArray⟩] w fun e w' => e = .returned (.bool (ofS s least most others)) ∧ w = w' := by
 obtain ⟨R, hR⟩ : ∃ R, ofS s least most others = R := ⟨_, rfl⟩
 rw [hR]; have HR := Lib.hid hR; clear hR; go_enter Tryz.func285, Tryz.ntmps285
 go_wp2; go_loop [9] (fun i => ∃ k : Nat, k ≤ s.length ∧ i = .int .i64 k ∧ (s.take k).all (fun c => nameSign c || others.contains c) = true) (fun i => s.length - (intOf i).toNat)
 case atStart => exact ⟨0, Nat.zero_le _, rfl, rfl⟩
 case round =>
  obtain ⟨k, hk, rfl, hall⟩ := hrel; have HA := Lib.hid hall; clear hall; by_cases hlt : k < s.length
  · obtain ⟨c, hc⟩ : ∃ c, s[k] = c := ⟨_, rfl⟩
    have HC := Lib.hid hc; obtain ⟨b, hb⟩ : ∃ b, nameSign c = b := ⟨_, rfl⟩
    have HB := Lib.hid hb; have hcs := sign_cases c; rw [hb] at hcs; clear hb; rcases hcs with ⟨rfl, h1, h2, h3⟩ | ⟨rfl, h1, h2⟩ | ⟨rfl, h1, h2⟩ | ⟨rfl, h1, h2, h3⟩ | ⟨rfl, h1, h2, h3, h4⟩
    all_goals
     go_wp2_with fail; go_loop [11, 12] (fun x j => ∃ n : Nat, n ≤ others.length ∧ j = .int .i64 n ∧ x = .bool (nameSign c || (others.take n).contains c)) (fun _ j => others.length - (intOf j).toNat)
     case atStart => exact ⟨0, Nat.zero_le _, rfl, by rw [HB.out]; first | rfl | (simp; omega)⟩
     case round =>
      obtain ⟨n, hn, rfl, rfl⟩ := hrel; obtain ⟨b, hb⟩ : ∃ b, (nameSign c || (others.take n).contains c) = b := ⟨_, rfl⟩
      rw [hb]; have HB2 := Lib.hid hb; clear hb; by_cases hln : n < others.length
      · have HST := Lib.hid (contains_take_succ hln c); obtain ⟨o, ho⟩ : ∃ o, others[n] = o := ⟨_, rfl⟩
        have HO := Lib.hid ho; rw [ho] at HST; have hob : (o == c) = true ∧ ((o.toNat : Int) == (c.toNat : Int)) = true ∨ (o == c) = false ∧ ((o.toNat : Int) == (c.toNat : Int)) = false := by
         by_cases e : o = c
         · left; subst e; simp
         · right; refine ⟨by simpa using e, ?_⟩
           rw [beq_eq_false_iff_ne]; intro h; exact e (UInt8.toNat_inj.1 (by omega))
        cases b with
        | true =>
         clear hob; go_wp2; go_round
         case rel => exact ⟨n + 1, by omega, by go_num, by rw [HST.out, ← Bool.or_assoc, HB2.out]; rfl⟩
         case measure => simp [intOf]; omega
        | false =>
         rcases hob with ⟨e1, e2⟩ | ⟨e1, e2⟩
         all_goals
          have E1 := Lib.hid e1; clear e1; go_wp2; go_round
          case rel => exact ⟨n + 1, by omega, by go_num, by rw [HST.out, ← Bool.or_assoc, HB2.out, E1.out]; rfl⟩
          case measure => simp [intOf]; omega
      · obtain rfl : n = others.length := by omega
        rw [List.take_length] at HB2; cases b with
        | true =>
         have HN := Lib.hid (all_take_succ' hlt HA.out (by rw [HC.out]; exact HB2.out)); go_wp2; go_round
         case rel => exact ⟨k + 1, by omega, by go_num, HN.out⟩
         case measure => simp [intOf]; omega
        | false =>
         have e : R = false := by
          rw [← HR.out]; unfold ofS; rw [all_false' hlt (by rw [HC.out]; exact HB2.out)]; rfl
         subst e; go_wp2; go_ret; exact ⟨rfl, rfl⟩
  · obtain rfl : k = s.length := by omega
    have e : R = (decide (least ≤ s.length) && decide (s.length ≤ most)) := by
     rw [← HR.out]; have := HA.out; rw [List.take_length] at this; unfold ofS; rw [this, Bool.true_and]
    clear HR HA; by_cases h1 : least ≤ s.length
    · have h2 : (least : Int) ≤ (s.length : Int) := by omega
      rw [decide_eq_true h1, Bool.true_and] at e; subst e; go_wp2; go_ret; first | exact ⟨rfl, rfl⟩ | (refine ⟨?_, rfl⟩; simp)
    · have h2 : ¬ (least : Int) ≤ (s.length : Int) := by omega
      rw [decide_eq_false h1, Bool.false_and] at e; subst e; go_wp2; go_ret; exact ⟨rfl, rfl⟩
theorem rIsName_calls (s : List UInt8) (w : World) (hs : s.length ≤ 140737488355328) : Calls Tryz.prog 203 #[.string ⟨s.toArray⟩] w fun e w' => e = .returned (.bool (isName s)) ∧ w = w' := by
 have e : ofS s 1 12 [] = isName s := by
  unfold ofS isName; rw [all_congr (q := nameSign) (fun c => by simp)]; cases s.all nameSign <;> simp
 have H := Lib.hid (ofS_calls s [] 1 12 w hs (by decide) (by decide) (by decide)); rw [e] at H; clear e; generalize isName s = R at *; go_enter Tryz.func203, Tryz.ntmps203
 go_wp2_with fail; refine H.out.mono ?_; rintro e w' ⟨rfl, rfl⟩; go_wp2; go_ret; exact ⟨rfl, rfl⟩
def moreSigns : List UInt8 := [97, 98, 99, 100, 101, 102, 103, 104, 105, 106, 107, 108, 109, 110, 111, 112, 113, 114, 115, 116, 117, 118, 119, 120, 121, 122, 46, 95, 45]
theorem moreSigns_say (c : UInt8) : (nameSign c || moreSigns.contains c) = idSign c := by
 have := byte_all (p := fun c => (nameSign c || moreSigns.contains c) == idSign c) (by decide +kernel) c; simpa using this
theorem rIsID_calls (s : List UInt8) (w : World) (hs : s.length ≤ 140737488355328) : Calls Tryz.prog 204 #[.string ⟨s.toArray⟩] w fun e w' => e = .returned (.bool (isID s)) ∧ w = w' := by
 have e : ofS s 1 20 moreSigns = isID s := by
  unfold ofS isID; rw [all_congr (q := idSign) moreSigns_say]; cases s.all idSign <;> simp
 have H := Lib.hid (ofS_calls s moreSigns 1 20 w hs (by decide) (by decide) (by decide)); rw [e] at H; clear e; generalize isID s = R at *; go_enter Tryz.func204, Tryz.ntmps204
 go_wp2_with fail; refine H.out.mono ?_; rintro e w' ⟨rfl, rfl⟩; go_wp2; go_ret; exact ⟨rfl, rfl⟩
theorem great_first {c : UInt8} (h : nameSign c = true) : isGreat c = true ∧ 65 ≤ (c.toNat : Int) ∨ isGreat c = false ∧ ¬ 65 ≤ (c.toNat : Int) := by
 have h1 := sign_cases c; rw [h] at h1; have h2 : isGreat c = true ↔ 65 ≤ (c.toNat : Int) ∧ (c.toNat : Int) ≤ 90 := by
  unfold isGreat; simp only [Bool.and_eq_true, decide_eq_true_eq, UInt8.le_iff_toNat_le]; simp
  omega
 by_cases h3 : isGreat c = true
 · exact .inl ⟨h3, (h2.1 h3).1⟩
 · have h4 : isGreat c = false := by simpa using h3
   rw [h2] at h3; refine .inr ⟨h4, ?_⟩; simp at h1; omega
theorem rIsSymbol_calls (s : List UInt8) (w : World) (hs : s.length ≤ 140737488355328) : Calls Tryz.prog 205 #[.string ⟨s.toArray⟩] w fun e w' => e = .returned (.bool (isSymbol s)) ∧ w = w' := by
 have H := Lib.hid (ofS_calls s [] 1 8 w hs (by decide) (by decide) (by decide)); have e : ofS s 1 8 [] = (decide (1 ≤ s.length) && decide (s.length ≤ 8) && s.all nameSign) := by
  unfold ofS; rw [all_congr (q := nameSign) (fun c => by simp)]; cases s.all nameSign <;> simp
 rw [e] at H; clear e; unfold isSymbol; by_cases h : (decide (1 ≤ s.length) && decide (s.length ≤ 8) && s.all nameSign) = true
 · rw [h] at H ⊢; simp only [Bool.and_eq_true, decide_eq_true_eq] at h; have hp : 0 < s.length := by omega
   have hh : s.headD 0 = s[0] := by cases s with | nil => simp at hp | cons x l => rfl
   have hg := great_first (List.all_eq_true.1 h.2 s[0] (List.getElem_mem _)); rw [hh, Bool.true_and]; obtain ⟨c, hc⟩ : ∃ c, s[0] = c := ⟨_, rfl⟩
   rw [hc] at hg ⊢; have HC := Lib.hid hc; clear hh h hc; rcases hg with ⟨e, h1⟩ | ⟨e, h1⟩
   all_goals
    rw [e]; clear e; go_enter Tryz.func205, Tryz.ntmps205
    go_wp2_with fail; refine H.out.mono ?_; rintro e w' ⟨rfl, rfl⟩; have hc := HC.out; go_wp2; go_ret; first | exact ⟨rfl, rfl⟩ | (refine ⟨?_, rfl⟩; simp; omega)
 · have h : (decide (1 ≤ s.length) && decide (s.length ≤ 8) && s.all nameSign) = false := by simpa using h
   rw [h] at H ⊢; rw [Bool.false_and]; clear h; go_enter Tryz.func205, Tryz.ntmps205
   go_wp2_with fail; refine H.out.mono ?_; rintro e w' ⟨rfl, rfl⟩; go_wp2; go_ret; exact ⟨rfl, rfl⟩
theorem rIsText_calls (s : List UInt8) (w : World) (hs : s.length ≤ 140737488355328) :
 Calls Tryz.prog 206 #[.string ⟨s.toArray⟩] w fun e w' => e = .returned (.bool (isText s)) ∧ w = w' := by
 go_enter Tryz.func206, Tryz.ntmps206
 go_wp2; go_loop [3] (fun i => ∃ k : Nat, k ≤ s.length ∧ i = .int .i64 k ∧ (s.take k).all textSign = true) (fun i => s.length - (intOf i).toNat)
 case atStart => exact ⟨0, Nat.zero_le _, rfl, rfl⟩
 case round =>
  obtain ⟨k, hk, rfl, hall⟩ := hrel; have HA := Lib.hid hall; clear hall; by_cases hlt : k < s.length
  · by_cases hc : textSign s[k] = true
    · have HN := Lib.hid (all_take_succ hlt HA.out hc); rw [textSign_iff] at hc; obtain ⟨⟨h1, h2⟩, h3⟩ := hc; generalize hg : s[k] = c at *; have HG := Lib.hid hg; go_wp2; go_round
      case rel => exact ⟨k + 1, by omega, by go_num, HN.out⟩
      case measure => simp [intOf]; omega
    · have e : isText s = false := by simp [isText, all_false hlt hc]
      have E := Lib.hid e; clear e; have hn := not_textSign hc; clear hc; rcases hn with h1 | h1 | ⟨h1, h2, h3⟩
      all_goals
       go_wp2; go_ret; exact ⟨by rw [E.out]; rfl, rfl⟩
  · obtain rfl : k = s.length := by omega
    have e : isText s = decide (s.length ≤ 60) := by
     have := HA.out; rw [List.take_of_length_le (by omega)] at this; simp [isText, this]
    have E := Lib.hid e; clear e; go_wp2; go_ret; refine ⟨?_, rfl⟩; rw [E.out]; simp
    omega
end
end Go.Proofs.YtdmjinlgdkgoiaaGreatDoor
