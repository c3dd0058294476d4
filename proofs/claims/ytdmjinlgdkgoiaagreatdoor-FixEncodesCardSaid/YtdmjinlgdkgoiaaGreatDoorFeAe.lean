/- Of the layer fix: Num, NumSum, Valued. -/
import Derived.Test.YtdmjinlgdkgoiaaGreatDoorFeAa
import Derived.Test.YtdmjinlgdkgoiaaGreatDoorFeAb
import Derived.Test.YtdmjinlgdkgoiaaGreatDoorFeAc
import Derived.Test.YtdmjinlgdkgoiaaGreatDoorFeAd
import Derived.WalkSmall
import Derived.Lib.SmallJoins
set_option linter.unusedVariables false
set_option linter.unusedSimpArgs false
set_option maxRecDepth 100000
namespace Go.Proofs.YtdmjinlgdkgoiaaGreatDoor
section
open Go Go.RowKit
set_option maxHeartbeats 1000000
attribute [local go_sem] ba_get
theorem Ext.grow {a w : World} (h : Ext a w) (os : Array Obj) : Ext a (Sort.grow w os) := by
 refine h.trans ⟨rfl, rfl, rfl, by simp [Sort.grow], fun k hk => ?_⟩; simp [Sort.grow, Array.getElem?_append, hk]
structure Env (w : World) : Prop where
 tab : Lib.TabIs Tryz.prog w "internal/strconv.uint64pow10" .u64 Lib.pow10Tab
 range : ∃ tp p, w.var? Tryz.prog "strconv.ErrRange" = some #[.iface tp p]
 size : Tryz.prog.globals.size ≤ w.heap.size
 most : ∃ m, w.cell? ⟨3, 0, none⟩ = some (.int .i64 m)
theorem glob_most : 3 < Tryz.prog.globals.size := by decide
theorem glob_pow10 : ∃ g, Tryz.prog.globalNamed "internal/strconv.uint64pow10" = some g ∧ g < Tryz.prog.globals.size := by
 refine ⟨_, by rfl, by decide⟩
theorem glob_range : ∃ g, Tryz.prog.globalNamed "strconv.ErrRange" = some g ∧ g < Tryz.prog.globals.size := by
 refine ⟨_, by rfl, by decide⟩
theorem Env.below {B : Nat} {w w' : World} (h : Env w) (hB : Tryz.prog.globals.size ≤ B) (hb : Below B w w') : Env w' := by
 obtain ⟨g, h1, h2⟩ := glob_pow10; obtain ⟨g', h3, h4⟩ := glob_range; obtain ⟨tp, p, hv⟩ := h.range; exact ⟨var?_below hb h1 (by omega) h.tab, ⟨tp, p, var?_below hb h3 (by omega) hv⟩, Nat.le_trans h.size hb.size,
  h.most.imp fun m hm => (Below.cell (p := ⟨3, 0, none⟩) hb (by have := glob_most; show 3 < B; omega)).trans hm⟩
theorem Env.ext {w w' : World} (h : Env w) (hE : Ext w w') : Env w' := h.below h.size hE
theorem not_digit {c : UInt8} (h : ¬ isDigit c = true) : (c.toNat : Int) < 48 ∨ (48 ≤ (c.toNat : Int) ∧ 57 < (c.toNat : Int)) := by
 rw [isDigit_iff] at h; omega
theorem numeral_calls (s : List UInt8) (w : World) (hs : s.length ≤ 140737488355328) :
 Calls Tryz.prog 230 #[.string ⟨s.toArray⟩] w fun e w' => e = .returned (.bool (numeral s)) ∧ w = w' := by
 have hstart : s.length = 0 ∨ (s.length ≤ 1 ∧ s ≠ []) ∨ (∃ h : 1 < s.length, (s[0]).toNat = 48) ∨ (∃ h : 1 < s.length, ¬ (s[0]).toNat = 48) := by
  by_cases h1 : 1 < s.length
  · by_cases h2 : (s[0]).toNat = 48
    · exact .inr (.inr (.inl ⟨h1, h2⟩))
    · exact .inr (.inr (.inr ⟨h1, h2⟩))
  · by_cases h0 : s.length = 0
    · exact .inl h0
    · exact .inr (.inl ⟨by omega, fun e => h0 (by simp [e])⟩)
 rcases hstart with h1 | ⟨h1, he0⟩ | ⟨h1, h2⟩ | ⟨h1, h2⟩
 · obtain rfl := List.length_eq_zero_iff.1 h1; have e : numeral [] = false := rfl; rw [e]; clear e; go_enter Tryz.func230, Tryz.ntmps230
   go_wp2; go_ret; exact ⟨rfl, rfl⟩
 rotate_left
 · have e : numeral s = false := by
    have h3 : s.headD 0 = 48 := by
     cases s with
     | nil => simp at h1
     | cons c r => simp at h2 ⊢; exact UInt8.toNat_inj.1 h2
    unfold numeral; rw [h3]; simp [h1]
   rw [e]; clear e; have he : s.isEmpty = false := by cases s <;> simp at h1 ⊢
   generalize hg : s[0] = c at *; have h3 : ((c.toNat : Int) == 48) = true := by rw [beq_iff_eq]; omega
   clear h2; go_enter Tryz.func230, Tryz.ntmps230
   go_wp2; go_ret; exact ⟨rfl, rfl⟩
 case' inr.inl =>
  have hnum : numeral s = s.all isDigit := by
   cases s with
   | nil => exact absurd rfl he0
   | cons c r => simp at h1; subst h1; simp [numeral]
  have HNUM := Lib.hid hnum; have he : s.isEmpty = false := by
   cases s with
   | nil => exact absurd rfl he0
   | cons c r => rfl
  clear hnum he0; go_enter Tryz.func230, Tryz.ntmps230
  go_wp2_with fail
 case' inr.inr.inr =>
  have hnum : numeral s = s.all isDigit := by
   cases s with
   | nil => simp at h1
   | cons c r =>
    have : (c == 48) = false := by
     simp at h2; rw [beq_eq_false_iff_ne]; intro e; subst e; exact h2 rfl
    simp [numeral, this]
  have HNUM := Lib.hid hnum; have he : s.isEmpty = false := by cases s <;> simp at h1 ⊢
  clear hnum; generalize hg : s[0] = c0 at *; have h3 : ((c0.toNat : Int) == 48) = false := by rw [beq_eq_false_iff_ne]; omega
  clear h2; go_enter Tryz.func230, Tryz.ntmps230
  go_wp2_with fail; clear hg h3
 all_goals
  clear h1 he; go_loop [18] (fun i => ∃ k : Nat, k ≤ s.length ∧ i = .int .i64 k ∧ (s.take k).all isDigit = true) (fun i => s.length - (intOf i).toNat)
  case atStart => exact ⟨0, Nat.zero_le _, rfl, rfl⟩
  case round =>
   obtain ⟨k, hk, rfl, hall⟩ := hrel; have HA := Lib.hid hall; clear hall; by_cases hlt : k < s.length
   · by_cases hc : isDigit s[k] = true
     · have HN := Lib.hid (all_take_succ hlt HA.out hc); rw [isDigit_iff] at hc; obtain ⟨h1, h2⟩ := hc; generalize hg : s[k] = c at *; have HG := Lib.hid hg; go_wp2; go_round
       case rel => exact ⟨k + 1, by omega, by go_num, HN.out⟩
       case measure => simp [intOf]; omega
     · have e : numeral s = false := by rw [HNUM.out, all_false hlt hc]
       have E := Lib.hid e; clear e; have hn := not_digit hc; clear hc; generalize hg : s[k] = c at *; rcases hn with h1 | ⟨h1, h2⟩
       all_goals
        go_wp2; go_ret; exact ⟨by rw [E.out]; rfl, rfl⟩
   · obtain rfl : k = s.length := by omega
     have e : numeral s = true := by
      have := HA.out; rw [List.take_of_length_le (by omega)] at this; rw [HNUM.out, this]
     have E := Lib.hid e; clear e; go_wp2; go_ret; exact ⟨by rw [E.out]; rfl, rfl⟩
theorem great_calls (s : List UInt8) (w : World) (hs : s.length ≤ 140737488355328) (h0 : s ≠ []) (hd : s.all isDigit = true) (hE : Env w) :
 Calls Tryz.prog 231 #[.string ⟨s.toArray⟩] w fun e w' => e = .returned (.tuple #[.int .i64 (if natOf s ≤ greatest then natOf s else greatest), .bool (decide (natOf s ≤ greatest))]) ∧ Ext w w' := by
 have hp := parseIntB_digits s h0 hd; have hsz : (ByteArray.mk s.toArray).size = s.length := by simp [ByteArray.size]
 have hsat : Lib.intSat 64 s = (greatest : Int) := by
  unfold Lib.intSat; rw [if_neg]
  · decide
  · cases s with
    | nil => exact absurd rfl h0
    | cons c r =>
     have hc := (isDigit_iff c).1 (by simp only [List.all_cons, Bool.and_eq_true] at hd; exact hd.1); simp
     omega
 by_cases hg : natOf s ≤ greatest
 · rw [if_pos hg] at hp ⊢; have hk := Tryz.strconv_ParseInt_10_at64_ok ⟨s.toArray⟩ (by rw [hsz]; omega) (natOf s) hp; have HK := Lib.hid hk; have HG := Lib.hid hg; generalize hn : natOf s = n at *; rw [decide_eq_true hg]; clear hk hp hsat hd h0 hg; have hn0 : (0:Int) ≤ n := by omega
   go_enter Tryz.func231, Tryz.ntmps231
   go_wp2_with fail; refine (HK.out _).mono ?_; rintro e w1 ⟨rfl, hw⟩; have hX : Ext w w1 := by
    rcases hw with rfl | ⟨t, rfl⟩
    · exact Ext.refl _
    · exact Joins.below_bytesWorld _ _ _ _ (Nat.le_refl _)
   clear hw; go_wp2; go_region
   all_goals (go_wp2; go_ret2; exact ⟨rfl, hX.drew⟩)
 · rw [if_neg hg] at hp ⊢; obtain ⟨tp, p, hvar⟩ := hE.range; have hk := Tryz.strconv_ParseInt_10_at64_range_var ⟨s.toArray⟩ (by rw [hsz]; omega) hp tp p w hvar; have HK := Lib.hid hk; have HS := Lib.hid hsat; rw [decide_eq_false hg]; clear hk hp hsat hd h0 hg hvar; go_enter Tryz.func231, Tryz.ntmps231
   go_wp2_with fail; refine (HK.out).mono ?_; rintro e w1 ⟨N, rfl, h1, h2, h3⟩; have hX : Ext w w1 := h3; simp only [HS.out]; clear h2 h3; go_wp2; go_region
   all_goals (go_wp2; go_ret2; exact ⟨rfl, hX.drew⟩)
theorem parseUint_calls (s : List UInt8) (most : Int) (w : World) (hs : s.length ≤ 140737488355328) (hE : Env w) :
 Calls Tryz.prog 150 #[.string ⟨s.toArray⟩, .int .i64 most] w fun e w' => e = .returned (.tuple #[.int .i64 (parseUint s most).1, .int .i64 (parseUint s most).2]) ∧ Ext w w' := by
 have hX := Ext.refl w; by_cases hn : numeral s = true
 · obtain ⟨h0, hd⟩ := numeral_digits hn; have hg := great_calls s w hs h0 hd hE; have HG := Lib.hid hg; clear h0 hd hg; by_cases hbad : greatest < natOf s ∨ most < natOf s
   · have e : parseUint s most = (0, 11) := by simp [parseUint, hn, hbad]
     rw [e]; clear e; have HN := Lib.hid hn; clear hn; by_cases hle : natOf s ≤ greatest
     · have hm : most < (natOf s : Int) := by
        rcases hbad with h | h
        · omega
        · exact h
       clear hbad; go_enter Tryz.func150, Tryz.ntmps150
       go_wp2_with fail; refine (numeral_calls s _ hs).mono ?_; rw [HN.out]; rintro e w' ⟨rfl, rfl⟩; go_wp2_with fail; refine HG.out.mono ?_; rw [if_pos hle, decide_eq_true hle]; rintro e w1 ⟨rfl, hX1⟩; generalize (natOf s : Int) = n at *; clear hle; go_wp2; go_ret2; exact ⟨rfl, hX1⟩
     · clear hbad; go_enter Tryz.func150, Tryz.ntmps150
       go_wp2_with fail; refine (numeral_calls s _ hs).mono ?_; rw [HN.out]; rintro e w' ⟨rfl, rfl⟩; go_wp2_with fail; refine HG.out.mono ?_; rw [if_neg hle, decide_eq_false hle]; rintro e w1 ⟨rfl, hX1⟩; clear hle; go_wp2; go_ret2; exact ⟨rfl, hX1⟩
   · have e : parseUint s most = ((natOf s : Int), 0) := by simp [parseUint, hn, hbad]
     rw [e]; clear e; have HN := Lib.hid hn; clear hn; have hle : natOf s ≤ greatest := by omega
     have hm : ¬ most < (natOf s : Int) := by omega
     clear hbad; obtain ⟨n, hnn⟩ : ∃ n : Int, (natOf s : Int) = n := ⟨_, rfl⟩
     rw [hnn] at hm ⊢; have HNN := Lib.hid hnn; clear hnn; go_enter Tryz.func150, Tryz.ntmps150
     go_wp2_with fail; refine (numeral_calls s _ hs).mono ?_; rw [HN.out]; rintro e w' ⟨rfl, rfl⟩; go_wp2_with fail; refine HG.out.mono ?_; rw [if_pos hle, decide_eq_true hle, HNN.out]; rintro e w1 ⟨rfl, hX1⟩; clear hle; go_wp2; go_ret2; exact ⟨rfl, hX1⟩
 · have hn : numeral s = false := by simpa using hn
   have e : parseUint s most = (0, 10) := by simp [parseUint, hn]
   rw [e]; clear e; have HN := Lib.hid hn; clear hn; go_enter Tryz.func150, Tryz.ntmps150
   go_wp2_with fail; refine (numeral_calls s _ hs).mono ?_; rw [HN.out]; rintro e w' ⟨rfl, rfl⟩; go_wp2; go_ret2; exact ⟨rfl, hX⟩
theorem print_calls (n : Int) (h0 : -9223372036854775808 ≤ n) (h1 : n ≤ 9223372036854775807) (w : World) (hE : Env w) :
 Calls Tryz.prog 53 #[.int .i64 n] w fun e w' => e = .returned (.string ⟨(Lib.itoa n).toArray⟩) ∧ Ext w w' := by
 have HK := Lib.hid (Tryz.strconv_FormatInt_10 n h0 h1 w hE.tab); clear hE; go_enter Tryz.func53, Tryz.ntmps53
 go_wp2_with fail; refine HK.out.mono ?_; rintro e w1 ⟨rfl, k, os, rfl⟩; have hX : Ext w (Sort.grow (w.drewN k) os) := Ext.grow (Joins.below_draws _ _ _) os; generalize Sort.grow (w.drewN k) os = w1 at *; go_wp2; go_ret; exact ⟨rfl, hX⟩
end
section
open Go Go.RowKit
set_option maxHeartbeats 1000000
attribute [local go_sem] ba_get
theorem sum_calls (s : List UInt8) (A : Option Addr) (cap B c2 : Nat) (w : World) (hs : s.length ≤ 140737488355328)
 (hB : w.cell? ⟨B, 0, none⟩ = some (.slice A s.length cap)) (hb : Reads w A s) :
 Calls Tryz.prog 56 #[.slice (some ⟨B, 0, none⟩) 1 c2] w fun e w' => e = .returned (.int .i64 (sumOf s)) ∧ w = w' := by
 obtain ⟨R, hR⟩ : ∃ R : Nat, sumOf s = R := ⟨_, rfl⟩
 have hlt : R < 256 := by rw [← hR, sumOf_eq]; omega
 have hw64 : wrap64 (R : Int) = R := by unfold wrap64; omega
 rw [hR]; have HR := Lib.hid hR; have HB := Lib.hid hb; clear hR hb; go_enter Tryz.func56, Tryz.ntmps56
 go_wp2; go_loop [3, 10] (fun n i => (n = .int .u8 0 ∧ i = .int .i64 0) ∨ (n = .int .u8 (R : Int) ∧ i = .int .i64 1)) (fun _ i => 1 - (intOf i).toNat)
 case atStart => exact .inl ⟨rfl, rfl⟩
 case round =>
  rcases hrel with ⟨rfl, rfl⟩ | ⟨rfl, rfl⟩
  · go_wp2_with fail; go_loop [3, 16] (fun n i => ∃ k : Nat, k ≤ s.length ∧ i = .int .i64 k ∧ n = .int .u8 ((addUp 0 (s.take k) % 256 : Nat) : Int)) (fun _ i => s.length - (intOf i).toNat)
    case atStart => exact ⟨0, by omega, rfl, rfl⟩
    case round =>
     obtain ⟨k, hk, rfl, rfl⟩ := hrel; by_cases hlt : k < s.length
     · obtain ⟨ad, rfl, hc⟩ := HB.out.at hlt; have HN := Lib.hid (addUp_succ hlt); generalize s[k] = c at *; generalize addUp 0 (s.take k) = m at *; go_wp2; go_round
       case rel => exact ⟨k + 1, by omega, by go_num, by rw [HN.out]; refine congrArg _ ?_; (first | (simp [IntKind.wrap_u8]; done) | (simp [IntKind.wrap_u8]; omega))⟩
       case measure => simp [intOf]; omega
     · obtain rfl : k = s.length := by omega
       rw [List.take_length, ← sumOf_eq, HR.out]; go_wp2; go_round
       case rel => exact .inr ⟨rfl, rfl⟩
       case measure => simp [intOf]
  · go_wp2; go_ret; exact ⟨rfl, rfl⟩
end
section
open Go Go.RowKit
set_option maxHeartbeats 1000000
attribute [local go_sem] ba_get
theorem not_shown {c : UInt8} (h : ¬ shown c = true) : (c.toNat : Int) < 32 ∨ (32 ≤ (c.toNat : Int) ∧ 126 < (c.toNat : Int)) := by
 rw [shown_iff] at h; omega
theorem valued_calls (s : List UInt8) (w : World) (hs : s.length ≤ 140737488355328) :
 Calls Tryz.prog 50 #[.string ⟨s.toArray⟩] w fun e w' => e = .returned (.bool (valued s)) ∧ w = w' := by
 go_enter Tryz.func50, Tryz.ntmps50
 go_wp2; go_loop [6] (fun i => ∃ k : Nat, k ≤ s.length ∧ i = .int .i64 k ∧ (s.take k).all shown = true) (fun i => s.length - (intOf i).toNat)
 case atStart => exact ⟨0, Nat.zero_le _, rfl, rfl⟩
 case round =>
  obtain ⟨k, hk, rfl, hall⟩ := hrel; have HA := Lib.hid hall; clear hall; by_cases hlt : k < s.length
  · by_cases hc : shown s[k] = true
    · have HN := Lib.hid (all_take_succ' hlt HA.out hc); rw [shown_iff] at hc; obtain ⟨h1, h2⟩ := hc; generalize hg : s[k] = c at *; have HG := Lib.hid hg; go_wp2; go_round
      case rel => exact ⟨k + 1, by omega, by go_num, HN.out⟩
      case measure => simp [intOf]; omega
    · have e : valued s = false := by simp [valued, all_false hlt hc]
      have E := Lib.hid e; clear e; have hn := not_shown hc; clear hc; generalize hg : s[k] = c at *; rcases hn with h1 | ⟨h1, h2⟩
      all_goals
       go_wp2; go_ret; exact ⟨by rw [E.out]; rfl, rfl⟩
  · obtain rfl : k = s.length := by omega
    have e : valued s = !s.isEmpty := by
     have := HA.out; rw [List.take_of_length_le (by omega)] at this; simp [valued, this]
    have E := Lib.hid e; clear e; go_wp2; go_ret; refine ⟨?_, rfl⟩; rw [E.out]; cases s <;> simp
end
end Go.Proofs.YtdmjinlgdkgoiaaGreatDoor
