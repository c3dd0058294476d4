/- Of the layer fix: RefDate. -/
import Derived.Test.YtdmjinlgdkgoiaaGreatDoorFeAn
import Derived.Test.YtdmjinlgdkgoiaaGreatDoorFeAx
set_option linter.unusedVariables false
set_option linter.unusedSimpArgs false
set_option maxRecDepth 100000
namespace Go.Proofs.YtdmjinlgdkgoiaaGreatDoor
section
open Go Go.RowKit
set_option maxHeartbeats 1600000
attribute [local go_sem] ba_get ba_append ba_nil ba_cons
theorem rLeap_calls (y : Int) (w : World) (h0 : 0 ≤ y) (h1 : y ≤ 100000) :
 Calls Tryz.prog 400 #[.int .i64 y] w fun e w' => e = .returned (.bool (leap y)) ∧ w = w' := by
 have hcase : (y % 4 == 0) = true ∧ (y % 100 != 0) = true ∧ leap y = true ∨ (y % 4 == 0) = true ∧ (y % 100 != 0) = false ∧ leap y = (y % 400 == 0) ∨ (y % 4 == 0) = false ∧ (y % 400 == 0) = false ∧ leap y = false := by
  unfold leap; by_cases a : y % 4 = 0
  · by_cases b : y % 100 = 0
    · right; left; simp [a, b]
    · left; simp [a, b]
  · have : ¬ y % 400 = 0 := by omega
    right; right; simp [a, this]
 rcases hcase with ⟨a, b, e⟩ | ⟨a, b, e⟩ | ⟨a, b, e⟩
 all_goals
  rw [e]; clear e; go_enter Tryz.func400, Tryz.ntmps400
  go_wp2; go_ret; exact ⟨rfl, rfl⟩
theorem rLong_calls (y m : Int) (w : World) (h0 : 0 ≤ y) (h1 : y ≤ 100000) (h2 : 1 ≤ m) (h3 : m ≤ 12) :
 Calls Tryz.prog 373 #[.int .i64 y, .int .i64 m] w fun e w' => e = .returned (.int .i64 (longOf y m)) ∧ Ext w w' := by
 have hc : m = 1 ∨ m = 2 ∨ m = 3 ∨ m = 4 ∨ m = 5 ∨ m = 6 ∨ m = 7 ∨ m = 8 ∨ m = 9 ∨ m = 10 ∨ m = 11 ∨ m = 12 := by omega
 obtain ⟨R, hR⟩ : ∃ R, longOf y m = R := ⟨_, rfl⟩
 rw [hR]; have HR := Lib.hid hR; have hX := (Ext.refl w).alloc (.cells #[.int .i64 31, .int .i64 28, .int .i64 31, .int .i64 30, .int .i64 31, .int .i64 30, .int .i64 31, .int .i64 31, .int .i64 30, .int .i64 31, .int .i64 30, .int .i64 31] 3); have HX := Lib.hid hX; clear hR hX; rcases hl : leap y with _ | _
 all_goals
  have HL := Lib.hid hl; clear hl; rcases hc with rfl | rfl | rfl | rfl | rfl | rfl | rfl | rfl | rfl | rfl | rfl | rfl
  all_goals
   go_enter Tryz.func373, Tryz.ntmps373
   go_wp2_with fail; refine (rLeap_calls y _ h0 h1).mono ?_; rw [HL.out]; rintro e w' ⟨rfl, rfl⟩; go_wp2; go_ret; refine ⟨?_, HX.out⟩; rw [← HR.out]; simp [longOf, aheadM, monthAt, HL.out]
theorem rAhead_calls (y : Int) (w : World) (h0 : 1970 ≤ y) (h1 : y ≤ 100000) :
 Calls Tryz.prog 374 #[.int .i64 y] w fun e w' => e = .returned (.int .i64 (aheadY y)) ∧ w = w' := by
 obtain ⟨R, hR⟩ : ∃ R, aheadY y = R := ⟨_, rfl⟩
 rw [hR]; have HR := Lib.hid hR; clear hR; go_enter Tryz.func374, Tryz.ntmps374
 go_wp2; go_ret; refine ⟨?_, rfl⟩; rw [← HR.out]; unfold aheadY; exact congrArg Ending.returned (congrArg (Value.int .i64) (by omega))
theorem rNumber_calls (date : Int) (w : World) (h9 : date ≤ 9223372036854775807) (h8 : -9223372036854775808 ≤ date) :
 Calls Tryz.prog 286 #[.int .i64 date] w fun e w' => e = .returned (dayV (dayOf date)) ∧ Ext w w' := by
 by_cases hneg : date < 0
 · have e : dayOf date = none := by simp [dayOf, hneg]
   rw [e]; clear e; have hq : date.tdiv 10000 < 1970 ∧ -9223372036854775808 ≤ date.tdiv 10000 := by
    have h1 : date.tdiv 10000 = -((-date).tdiv 10000) := by rw [Int.neg_tdiv, Int.neg_neg]
    rw [Int.tdiv_eq_ediv_of_nonneg (a := -date) (by omega)] at h1; omega
   obtain ⟨q, hqq⟩ : ∃ q, date.tdiv 10000 = q := ⟨_, rfl⟩
   rw [hqq] at hq; have hw : wrap64 q = q := by unfold wrap64; omega
   obtain ⟨hq1, hq2⟩ := hq; go_enter Tryz.func286, Tryz.ntmps286
   go_wp2; go_ret2; exact ⟨rfl, Ext.refl _⟩
 have h0 : 0 ≤ date := by omega
 have hbad : ∀ b, b = (date / 10000 < 1970 ∨ 9999 < date / 10000 ∨ date / 100 % 100 < 1 ∨ 12 < date / 100 % 100 ∨ date % 100 < 1) → b → dayOf date = none := by
  rintro b rfl hb; unfold dayOf; rw [if_pos]; rcases hb with h | h | h | h | h <;> simp [h]
 have hcase : date / 10000 < 1970 ∨ (¬ date / 10000 < 1970 ∧ 9999 < date / 10000) ∨ (¬ date / 10000 < 1970 ∧ ¬ 9999 < date / 10000 ∧ date / 100 % 100 < 1) ∨ (¬ date / 10000 < 1970 ∧ ¬ 9999 < date / 10000 ∧ ¬ date / 100 % 100 < 1 ∧ 12 < date / 100 % 100) ∨
     (¬ date / 10000 < 1970 ∧ ¬ 9999 < date / 10000 ∧ ¬ date / 100 % 100 < 1 ∧ ¬ 12 < date / 100 % 100 ∧ date % 100 < 1) ∨ (¬ date / 10000 < 1970 ∧ ¬ 9999 < date / 10000 ∧ ¬ date / 100 % 100 < 1 ∧ ¬ 12 < date / 100 % 100 ∧ ¬ date % 100 < 1) := by omega
 rcases hcase with a | ⟨a, b⟩ | ⟨a, b, c⟩ | ⟨a, b, c, d⟩ | ⟨a, b, c, d, f⟩ | ⟨a, b, c, d, f⟩
 iterate 5
  · have e : dayOf date = none := hbad _ rfl (by omega); rw [e]; clear e hbad; go_enter Tryz.func286, Tryz.ntmps286
    go_wp2; go_ret2; exact ⟨rfl, Ext.refl _⟩
 clear hbad; have e : dayOf date = if longOf (date / 10000) (date / 100 % 100) < date % 100 then none else
     some (aheadY (date / 10000) + aheadM (date / 10000) (date / 100 % 100) + date % 100 - 1) := by
  simp only [dayOf]; unfold longOf; by_cases g : aheadM (date / 10000) (date / 100 % 100 + 1) - aheadM (date / 10000) (date / 100 % 100) < date % 100
  · rw [if_pos g, if_pos (by omega)]
  · rw [if_neg g, if_neg (by omega)]
 rw [e]; clear e; obtain ⟨Y, hY⟩ : ∃ Y, date / 10000 = Y := ⟨_, rfl⟩
 obtain ⟨M, hM⟩ : ∃ M, date / 100 % 100 = M := ⟨_, rfl⟩
 obtain ⟨D, hD⟩ : ∃ D, date % 100 = D := ⟨_, rfl⟩
 have hD9 : D < 100 := by omega
 rw [hY] at a b ⊢; rw [hM] at c d ⊢; rw [hD] at f ⊢; have r3 := aheadY_range Y (by omega) (by omega); obtain ⟨L, hL⟩ : ∃ L, longOf Y M = L := ⟨_, rfl⟩
 rw [hL]; have HLONG := Lib.hid (fun w => rLong_calls Y M w (by omega) (by omega) (by omega) (by omega)); rw [hL] at HLONG; have HL := Lib.hid hL; clear hL; by_cases g : L < D
 · rw [if_pos g]; go_enter Tryz.func286, Tryz.ntmps286
   go_wp2_with fail; refine (HLONG.out _).mono ?_; rintro e w1 ⟨rfl, hE⟩; go_wp2; go_ret2; exact ⟨rfl, hE⟩
 · rw [if_neg g]; obtain ⟨aY, haY⟩ : ∃ x, aheadY Y = x := ⟨_, rfl⟩
   have HAY := Lib.hid haY; rw [haY] at r3 ⊢; clear haY; go_enter Tryz.func286, Tryz.ntmps286
   go_wp2_with fail; refine (HLONG.out _).mono ?_; rintro e w1 ⟨rfl, hE⟩; have HE1 := Lib.hid hE; clear hE; go_wp2_with fail; refine (rAhead_calls Y _ (by omega) (by omega)).mono ?_; rw [HAY.out]; rintro e w' ⟨rfl, rfl⟩; go_wp2_with fail; go_loopw [7, 8] (fun x i wr => ∃ k : Int, i = .int .i64 k ∧ 1 ≤ k ∧ k ≤ M ∧ x = .int .i64 (aY + aheadM Y k) ∧ Ext w wr) (fun _ i _ => 13 - (intOf i).toNat)
   case atStart => exact ⟨1, rfl, by omega, by omega, by rw [aheadM_1]; simp, HE1.out⟩
   case round =>
    obtain ⟨k, rfl, hk1, hkM, rfl, hE2⟩ := hrel; have HE2 := Lib.hid hE2; have r1 := aheadM_range Y k (by omega) (by omega); obtain ⟨ak, hak⟩ : ∃ x, aheadM Y k = x := ⟨_, rfl⟩
    have HAK := Lib.hid hak; rw [hak] at r1 ⊢; clear hak hE2; by_cases hlt : k < M
    · have r2 := aheadM_range Y (k + 1) (by omega) (by omega); obtain ⟨l, hl⟩ : ∃ x, longOf Y k = x := ⟨_, rfl⟩
      have HLK := Lib.hid (fun w => rLong_calls Y k w (by omega) (by omega) (by omega) (by omega)); rw [hl] at HLK; have hnext : aheadM Y (k + 1) = ak + l := by rw [← hl, ← HAK.out]; unfold longOf; omega
      have HNEXT := Lib.hid hnext; rw [hnext] at r2; clear hl hnext; go_wp2_with fail; refine (HLK.out _).mono ?_; rintro e w2 ⟨rfl, hE⟩; have HE3 := Lib.hid (HE2.out.trans hE); clear hE; go_wp2; go_roundw
      case rel => exact ⟨k + 1, rfl, by omega, by omega, by rw [HNEXT.out]; congr 1; omega, HE3.out⟩
      case measure => simp [intOf]; omega
    · obtain rfl : k = M := by omega
      go_wp2; go_ret2; exact ⟨by rw [HAK.out]; rfl, HE2.out⟩
theorem rStart_calls (date : Int) (w : World) (h9 : date ≤ 9223372036854775807) (h8 : -9223372036854775808 ≤ date) :
 Calls Tryz.prog 207 #[.int .i64 date] w fun e w' => e = .returned (.tuple #[.int .i64 ((dayOf date).getD 0 * 86400000), .int .i64 (if (dayOf date).isSome then 0 else 21)]) ∧ Ext w w' := by
 cases hd : dayOf date with
 | none =>
  have HD := Lib.hid hd; clear hd; go_enter Tryz.func207, Tryz.ntmps207
  go_wp2_with (first | (go_at_call 286; refine (rNumber_calls _ _ h9 h8).mono ?_; rw [HD.out]; rintro e w' ⟨rfl, hE⟩; simp only [dayV, Option.getD_none, Option.isSome_none])); go_ret2; exact ⟨rfl, hE⟩
 | some d =>
  have hr := dayOf_range hd; have HD := Lib.hid hd; clear hd; go_enter Tryz.func207, Tryz.ntmps207
  go_wp2_with (first | (go_at_call 286; refine (rNumber_calls _ _ h9 h8).mono ?_; rw [HD.out]; rintro e w' ⟨rfl, hE⟩; simp only [dayV, Option.getD_some, Option.isSome_some])); go_ret2; exact ⟨rfl, hE⟩
theorem rDate_calls (n : Int) (w : World) (h0 : 0 ≤ n) (h1 : n ≤ 2932896) :
 Calls Tryz.prog 290 #[.int .i64 n] w fun e w' => e = .returned (.int .i64 (dateOf n)) ∧ Ext w w' := by
 obtain ⟨hs, hs2⟩ := aheadY_start n h0 h1; have hq : n / 366 = n.tdiv 366 := (Int.tdiv_eq_ediv_of_nonneg h0).symm; have hq0 : 0 ≤ n / 366 := by omega
 obtain ⟨Y, eY, h2, h3, h4, h5⟩ := yearFrom_spec n h1 8030 (1970 + n / 366) (by omega) hs2 hs (by omega); have h13 := aheadM_13 Y; obtain ⟨M, eM, h6, h7, h8, h9⟩ := monthFrom_spec Y (n - aheadY Y) (by omega) 12 1 (by omega) (by omega) (by rw [aheadM_1]; omega) (by omega); have hrY := aheadY_range Y (by omega) (by omega); obtain ⟨R, hR⟩ : ∃ R, dateOf n = R := ⟨_, rfl⟩
 rw [hR]; unfold dateOf at hR; simp only [eY, eM] at hR; rw [hq] at eY hs hs2 h2 hq0; have HR := Lib.hid hR; have HY := Lib.hid eY; have HM := Lib.hid eM; have HF := Lib.hid (And.intro h4 (And.intro h5 (And.intro h8 h9))); have HS := Lib.hid hs; clear hq; clear hR eY eM h4 h5 h8 h9 hs h13; go_enter Tryz.func290, Tryz.ntmps290
 go_wp2_with fail; go_loopw [3] (fun i wr => ∃ (y : Int) (f : Nat), i = .int .i64 y ∧ 1970 ≤ y ∧ y ≤ 9999 ∧ Ext w wr ∧ yearFrom n f y = Y ∧ 9999 - y ≤ f) (fun i _ => 9999 - (intOf i).toNat)
 case atStart => exact ⟨1970 + n.tdiv 366, 8030, rfl, by omega, hs2, Ext.refl _, HY.out, by omega⟩
 case round =>
  obtain ⟨y, f, rfl, hy0, hy1, hE, hrun, hf⟩ := hrel; have HRUN := Lib.hid hrun; have hry := aheadY_range (y + 1) (by omega) (by omega); clear hrun; by_cases hle : aheadY (y + 1) ≤ n
  · have hy9 : y + 1 ≤ 9999 := by
     by_cases hy : y = 9999
     · subst hy; have : aheadY (9999 + 1) = 2932897 := by decide
       omega
     · omega
    obtain ⟨f', rfl⟩ : ∃ f', f = f' + 1 := ⟨f - 1, by omega⟩
    have hrun := HRUN.out; unfold yearFrom at hrun; rw [if_pos hle] at hrun; have HRUN2 := Lib.hid hrun; have HY1 : RowKit.Hid (∃ a, aheadY (y + 1) = a ∧ a ≤ n) := Lib.hid ⟨_, rfl, hle⟩; obtain ⟨a, ha, hale⟩ := HY1.out; have HA := Lib.hid ha; clear hrun hle ha HRUN hry; go_wp2_with fail; refine (rAhead_calls (y + 1) _ (by omega) (by omega)).mono ?_; rw [HA.out]; rintro e w' ⟨rfl, rfl⟩; go_wp2; go_roundw
    case rel => exact ⟨y + 1, f', rfl, by omega, hy9, hE, HRUN2.out, by omega⟩
    case measure => simp [intOf]; omega
  · have hyY : y = Y := by
     have hrun := HRUN.out; cases f with
     | zero => exact hrun
     | succ f' =>
      unfold yearFrom at hrun
      rwa [if_neg hle] at hrun
    subst hyY; obtain ⟨a, ha⟩ : ∃ a, aheadY (y + 1) = a := ⟨_, rfl⟩
    rw [ha] at hle; have HA := Lib.hid ha; obtain ⟨b, hb⟩ : ∃ b, aheadY y = b := ⟨_, rfl⟩
    have HB := Lib.hid hb; rw [hb] at hrY; have hF := HF.out; rw [hb] at HR HM hF; obtain ⟨hF1, hF2, hF3, hF4⟩ := hF; have HF2 := Lib.hid (And.intro hF3 hF4); clear ha hb hry HF hF2 hF3 hF4; go_wp2_with fail; refine (rAhead_calls (y + 1) _ (by omega) (by omega)).mono ?_; rw [HA.out]; rintro e w' ⟨rfl, rfl⟩; go_wp2_with fail; refine (rAhead_calls y _ (by omega) (by omega)).mono ?_; rw [HB.out]; rintro e w' ⟨rfl, rfl⟩; go_wp2_with fail
    rename World => w1
    have hnb : 0 ≤ n - b := by omega
    go_loopw [0, 4] (fun x i wr => ∃ (m : Int) (f : Nat), i = .int .i64 m ∧ x = .int .i64 (n - b - aheadM y m) ∧ 1 ≤ m ∧ m ≤ 12 ∧ Ext w wr ∧ monthFrom y (n - b) f m = M ∧ 12 - m ≤ f) (fun _ i _ => 12 - (intOf i).toNat)
    case atStart => exact ⟨1, 12, rfl, by rw [aheadM_1]; simp, by omega, by omega, hE, HM.out, by omega⟩
    case round =>
     obtain ⟨m, f2, rfl, rfl, hm0, hm1, hE2, hrun2, hf2⟩ := hrel; have HRUN3 := Lib.hid hrun2; have hrm0 := aheadM_range y m (by omega) (by omega); have hrm := aheadM_range y (m + 1) (by omega) (by omega); obtain ⟨c, hc⟩ : ∃ c, longOf y m = c := ⟨_, rfl⟩
     have HLC := Lib.hid (fun w => rLong_calls y m w (by omega) (by omega) (by omega) (by omega)); rw [hc] at HLC; obtain ⟨d, hd⟩ : ∃ d, aheadM y m = d := ⟨_, rfl⟩
     have hcd : aheadM y (m + 1) = d + c := by rw [← hc, ← hd]; unfold longOf; omega
     have HD := Lib.hid hd; have HCD := Lib.hid hcd; rw [hd] at hrm0 ⊢; rw [hcd] at hrm; clear hrun2 hc hd hcd; by_cases hle2 : d + c ≤ n - b
     · have hm9 : m + 1 ≤ 12 := by
        by_cases hm : m = 12
        · exfalso
          subst hm; have h13 := aheadM_13 y; rw [HA.out, HB.out] at h13; have e : (12 : Int) + 1 = 13 := rfl; have hcd := HCD.out; rw [e] at hcd; omega
        · omega
       obtain ⟨f', rfl⟩ : ∃ f', f2 = f' + 1 := ⟨f2 - 1, by omega⟩
       have hrun2 := HRUN3.out; unfold monthFrom at hrun2; rw [HCD.out, if_pos hle2] at hrun2; have HRUN4 := Lib.hid hrun2; clear hrun2 HRUN3; go_wp2_with fail; refine (HLC.out _).mono ?_; rintro e w2 ⟨rfl, hE3⟩; go_wp2_with fail; refine (HLC.out _).mono ?_; rintro e w3 ⟨rfl, hE4⟩; go_wp2; go_roundw
       case rel => exact ⟨m + 1, f', rfl, by rw [HCD.out]; congr 1; omega, by omega, hm9, (hE2.trans hE3).trans hE4, HRUN4.out, by omega⟩
       case measure => simp [intOf]; omega
     · have hmM : m = M := by
        have hrun2 := HRUN3.out; cases f2 with
        | zero => exact hrun2
        | succ f' =>
         unfold monthFrom at hrun2
         rwa [HCD.out, if_neg hle2] at hrun2
       subst hmM; have hR := HR.out; rw [HD.out] at hR; have HR2 := Lib.hid hR; clear hR; go_wp2_with fail; refine (HLC.out _).mono ?_; rintro e w2 ⟨rfl, hE3⟩; go_wp2; go_ret; refine ⟨?_, hE2.trans hE3⟩; rw [← HR2.out]; exact congrArg Ending.returned (congrArg (Value.int .i64) (by omega))
theorem rIsTime_calls (ms : Int) (w : World) : Calls Tryz.prog 289 #[.int .i64 ms] w fun e w' => e = .returned (.bool (decide (0 ≤ ms) && decide (ms ≤ maxMs))) ∧ w = w' := by
 unfold maxMs; by_cases h1 : 0 ≤ ms
 · rw [decide_eq_true h1, Bool.true_and]; go_enter Tryz.func289, Tryz.ntmps289
   go_wp2; go_ret; exact ⟨rfl, rfl⟩
 · rw [decide_eq_false h1, Bool.false_and]; go_enter Tryz.func289, Tryz.ntmps289
   go_wp2; go_ret; exact ⟨rfl, rfl⟩
theorem rInDigits_calls (n k : Nat) (w : World) (hn : n ≤ 9223372036854775807) (hk : k ≤ 20) :
 Calls Tryz.prog 291 #[.int .i64 n, .int .i64 k] w fun e w' => e = .returned (.string ⟨(inDigits n k).toArray⟩) ∧ w = w' := by
 obtain ⟨R, hR⟩ : ∃ R, inDigits n k = R := ⟨_, rfl⟩
 have HRL : RowKit.Hid (R.length ≤ 20) := Lib.hid (by rw [← hR, inDigits_length]; exact hk); rw [hR]; have HR := Lib.hid hR; clear hR; go_enter Tryz.func291, Tryz.ntmps291
 go_wp2; go_loop [0, 5, 6] (fun x s i => ∃ (m j : Nat) (t : List UInt8), x = .int .i64 m ∧ i = .int .i64 j ∧ s = .string ⟨t.toArray⟩ ∧ m ≤ n ∧ j ≤ k ∧ inDigits m (k - j) ++ t = R) (fun _ _ i => k - (intOf i).toNat)
 case atStart => exact ⟨n, 0, [], rfl, rfl, rfl, Nat.le_refl _, by omega, by simpa using HR.out⟩
 case round =>
  obtain ⟨m, j, t, rfl, rfl, rfl, hm, hj, ht⟩ := hrel; have HT := Lib.hid ht; have hl : t.length ≤ 20 := by
   have h := congrArg List.length ht; rw [List.length_append, inDigits_length] at h; have := HRL.out; omega
  clear ht; by_cases hlt : j < k
  · obtain ⟨d, hd⟩ : ∃ d : Nat, m % 10 = d := ⟨_, rfl⟩
    obtain ⟨q, hq⟩ : ∃ q : Nat, m / 10 = q := ⟨_, rfl⟩
    have hdl : d < 10 := by omega
    have hdi : (m : Int) % 10 = (d : Int) := by omega
    have hqi : (m : Int) / 10 = (q : Int) := by omega
    have hx := digitSliceI d hdl w; have hn : inDigits q (k - (j + 1)) ++ (UInt8.ofNat (48 + d) :: t) = R := by
     rw [← HT.out, show k - j = (k - (j + 1)) + 1 from by omega]; show _ = (inDigits (m / 10) (k - (j + 1)) ++ [UInt8.ofNat (48 + m % 10)]) ++ t
     rw [hd, hq]; simp
    have HN := Lib.hid hn; have hqm : q ≤ n := by omega
    clear hd hq hn; go_wp2; go_round
    case rel => exact ⟨q, j + 1, UInt8.ofNat (48 + d) :: t, rfl, by go_num, by simp, hqm, by omega, HN.out⟩
    case measure => simp [intOf]; omega
  · obtain rfl : j = k := by omega
    have e : t = R := by rw [← HT.out]; simp [inDigits]
    subst e; go_wp2; go_ret; exact ⟨rfl, rfl⟩
theorem ba_snoc (s : List UInt8) (c : UInt8) : ByteArray.mk s.toArray ++ ByteArray.mk #[c] = ByteArray.mk (s ++ [c]).toArray := ba_append s [c]
attribute [local go_sem] ba_snoc
theorem rStamp_calls (ms : Int) (w : World) (h0 : 0 ≤ ms) (h1 : ms ≤ maxMs) :
 Calls Tryz.prog 214 #[.int .i64 ms] w fun e w' => e = .returned (.tuple #[.string ⟨(stampOf ms).toArray⟩, .int .i64 0]) ∧ Ext w w' := by
 have hb : (decide (0 ≤ ms) && decide (ms ≤ maxMs)) = true := by simp; omega
 have HB := Lib.hid hb; unfold maxMs at h1; obtain ⟨d, hd⟩ : ∃ d, ms / 86400000 = d := ⟨_, rfl⟩
 obtain ⟨l, hl⟩ : ∃ l : Nat, ms % 86400000 = (l : Int) := ⟨(ms % 86400000).toNat, by omega⟩
 have hd0 : 0 ≤ d := by omega
 have hd1 : d ≤ 2932896 := by omega
 have hl0 : l < 86400000 := by omega
 obtain ⟨D, hD⟩ : ∃ D : Nat, dateOf d = (D : Int) := ⟨(dateOf d).toNat, by have := (dayOf_dateOf d hd0 hd1).2.1; omega⟩
 have hD9 : D ≤ 99991231 := by have := (dayOf_dateOf d hd0 hd1).2.2; omega
 have hst : stampOf ms = inDigits D 8 ++ [45] ++ inDigits (l / 3600000) 2 ++ [58] ++ inDigits (l / 60000 % 60) 2 ++ [58] ++ inDigits (l / 1000 % 60) 2 ++ [46] ++ inDigits (l % 1000) 3 := by
  unfold stampOf dayMs; rw [hd, hD, hl]; rfl
 rw [hst]; have HDATE := Lib.hid (fun w => rDate_calls d w hd0 hd1); rw [hD] at HDATE; have H1 := Lib.hid (fun w => rInDigits_calls D 8 w (by omega) (by omega)); have H2 := Lib.hid (fun w => rInDigits_calls (l / 3600000) 2 w (by omega) (by omega)); have H3 := Lib.hid (fun w => rInDigits_calls (l / 60000 % 60) 2 w (by omega) (by omega)); have H4 := Lib.hid (fun w => rInDigits_calls (l / 1000 % 60) 2 w (by omega) (by omega)); have H5 := Lib.hid (fun w => rInDigits_calls (l % 1000) 3 w (by omega) (by omega)); have c2 : ((l / 3600000 : Nat) : Int) = (l : Int) / 3600000 := by omega
 have c3 : ((l / 60000 % 60 : Nat) : Int) = (l : Int) / 60000 % 60 := by omega
 have c4 : ((l / 1000 % 60 : Nat) : Int) = (l : Int) / 1000 % 60 := by omega
 have c5 : ((l % 1000 : Nat) : Int) = (l : Int) % 1000 := by omega
 rw [c2] at H2; rw [c3] at H3; rw [c4] at H4; rw [c5] at H5; have l1 : (inDigits D 8).length ≤ 8 := by rw [inDigits_length]; omega
 have l2 : (inDigits (l / 3600000) 2).length ≤ 8 := by rw [inDigits_length]; omega
 have l3 : (inDigits (l / 60000 % 60) 2).length ≤ 8 := by rw [inDigits_length]; omega
 have l4 : (inDigits (l / 1000 % 60) 2).length ≤ 8 := by rw [inDigits_length]; omega
 have l5 : (inDigits (l % 1000) 3).length ≤ 8 := by rw [inDigits_length]; omega
 generalize inDigits D 8 = A1 at *; generalize inDigits (l / 3600000) 2 = A2 at *; generalize inDigits (l / 60000 % 60) 2 = A3 at *; generalize inDigits (l / 1000 % 60) 2 = A4 at *; generalize inDigits (l % 1000) 3 = A5 at *; clear c2 c3 c4 c5 hb hst hD; go_enter Tryz.func214, Tryz.ntmps214
 go_wp2_with fail; refine (rIsTime_calls ms _).mono ?_; rw [HB.out]; rintro e w' ⟨rfl, rfl⟩; go_wp2_with fail; refine (HDATE.out _).mono ?_; rintro e w1 ⟨rfl, hE⟩; have HE := Lib.hid hE; clear hE; go_wp2_with fail; refine (H1.out _).mono ?_; rintro e w' ⟨rfl, rfl⟩; go_wp2_with fail; refine (H2.out _).mono ?_; rintro e w' ⟨rfl, rfl⟩; go_wp2_with fail; refine (H3.out _).mono ?_; rintro e w' ⟨rfl, rfl⟩; go_wp2_with fail; refine (H4.out _).mono ?_; rintro e w' ⟨rfl, rfl⟩; go_wp2_with fail; refine (H5.out _).mono ?_; rintro e w' ⟨rfl, rfl⟩; go_wp2; go_ret2; exact ⟨by simp, HE.out⟩
end
end Go.Proofs.YtdmjinlgdkgoiaaGreatDoor
