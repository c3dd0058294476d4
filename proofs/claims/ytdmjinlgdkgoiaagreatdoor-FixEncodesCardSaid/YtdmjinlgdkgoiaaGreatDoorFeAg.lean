/- Of the layer fix: Clock. -/
import Derived.Test.YtdmjinlgdkgoiaaGreatDoorFeAc
set_option linter.unusedVariables false
set_option linter.unusedSimpArgs false
set_option maxRecDepth 100000
namespace Go.Proofs.YtdmjinlgdkgoiaaGreatDoor
section
open Go Go.RowKit
set_option maxHeartbeats 400000
theorem leap_any (y : Int) (w : World) (h0 : 0 ≤ y) (h1 : y ≤ 100000) :
 Calls Tryz.prog 402 #[.int .i64 y] w fun e w' => e = .returned (.bool (leap y)) ∧ w = w' := by
 by_cases a : y % 4 = 0
 · by_cases b : y % 100 = 0
   · have e : leap y = (y % 400 == 0) := by unfold leap; simp [a, b]
     rw [e]; have ha : (y % 4 == 0) = true := by simp [a]
     have hb : (y % 100 != 0) = false := by simp [b]
     clear a b e; go_enter Tryz.func402, Tryz.ntmps402
     go_wp2; go_ret; exact ⟨rfl, rfl⟩
   · have e : leap y = true := by unfold leap; simp [a, b]
     rw [e]; have ha : (y % 4 == 0) = true := by simp [a]
     have hb : (y % 100 != 0) = true := by simp [b]
     clear a b e; go_enter Tryz.func402, Tryz.ntmps402
     go_wp2; go_ret; exact ⟨rfl, rfl⟩
 · have e : leap y = false := by unfold leap; simp [a]
   rw [e]; have ha : (y % 4 == 0) = false := by simp [a]
   clear a e; go_enter Tryz.func402, Tryz.ntmps402
   go_wp2; go_ret; exact ⟨rfl, rfl⟩
theorem years_any (y : Int) (w : World) (h0 : 1970 ≤ y) (h1 : y ≤ 100000) :
 Calls Tryz.prog 376 #[.int .i64 y] w fun e w' => e = .returned (.int .i64 (aheadY y)) ∧ w = w' := by
 go_enter Tryz.func376, Tryz.ntmps376
 go_wp2; go_ret; exact ⟨rfl, rfl⟩
def monthsV : Array Value := #[.int .i64 0, .int .i64 31, .int .i64 59, .int .i64 90, .int .i64 120, .int .i64 151, .int .i64 181, .int .i64 212, .int .i64 243, .int .i64 273, .int .i64 304, .int .i64 334, .int .i64 365]
theorem months_any (w : World) : Calls Tryz.prog 401 #[] w fun e w' => e = .returned (.agg monthsV) ∧ Ext w w' := by
 go_enter Tryz.func401, Tryz.ntmps401
 go_wp2; refine bodyPost_ret (v := .agg monthsV) (by simp [results, Tryz.results401, go_sem, monthsV]) rfl ⟨rfl, (Ext.refl _).alloc _⟩
theorem monthAt_1 (w : World) : (Instr.index 311 (.agg monthsV) (.int .i64 0)).run Tryz.prog w = .ok (.int .i64 0) w := by kernel_rfl
theorem ahead_1 (y : Int) (w : World) (h0 : 0 ≤ y) (h1 : y ≤ 100000) :
 Calls Tryz.prog 375 #[.int .i64 y, .int .i64 1] w fun e w' => e = .returned (.int .i64 (aheadM y 1)) ∧ Ext w w' := by
 have hi := monthAt_1; have e : aheadM y 1 = 0 := by simp [aheadM, monthAt]
 rw [e]; clear e; go_enter Tryz.func375, Tryz.ntmps375
 go_wp2_with (first | (go_at_call 401; refine (months_any _).mono ?_; rintro e w' ⟨rfl, hE⟩)); go_ret; exact ⟨rfl, hE⟩
theorem monthAt_2 (w : World) : (Instr.index 311 (.agg monthsV) (.int .i64 1)).run Tryz.prog w = .ok (.int .i64 31) w := by kernel_rfl
theorem ahead_2 (y : Int) (w : World) (h0 : 0 ≤ y) (h1 : y ≤ 100000) :
 Calls Tryz.prog 375 #[.int .i64 y, .int .i64 2] w fun e w' => e = .returned (.int .i64 (aheadM y 2)) ∧ Ext w w' := by
 have hi := monthAt_2; have e : aheadM y 2 = 31 := by simp [aheadM, monthAt]
 rw [e]; clear e; go_enter Tryz.func375, Tryz.ntmps375
 go_wp2_with (first | (go_at_call 401; refine (months_any _).mono ?_; rintro e w' ⟨rfl, hE⟩)); go_ret; exact ⟨rfl, hE⟩
theorem monthAt_3 (w : World) : (Instr.index 311 (.agg monthsV) (.int .i64 2)).run Tryz.prog w = .ok (.int .i64 59) w := by kernel_rfl
theorem ahead_3 (y : Int) (w : World) (h0 : 0 ≤ y) (h1 : y ≤ 100000) :
 Calls Tryz.prog 375 #[.int .i64 y, .int .i64 3] w fun e w' => e = .returned (.int .i64 (aheadM y 3)) ∧ Ext w w' := by
 have hi := monthAt_3; by_cases hb : leap y = true
 · have e : aheadM y 3 = 60 := by simp [aheadM, monthAt, hb]
   rw [e]; have HB := Lib.hid hb; clear e hb; go_enter Tryz.func375, Tryz.ntmps375
   go_wp2_with (first | (go_at_call 401; refine (months_any _).mono ?_; rintro e w' ⟨rfl, hE⟩) | (go_at_call 402; refine (leap_any _ _ (by omega) (by omega)).mono ?_; rw [HB.out]; rintro e w' ⟨rfl, rfl⟩)); go_ret; exact ⟨rfl, hE⟩
 · have e : aheadM y 3 = 59 := by simp [aheadM, monthAt, hb]
   rw [e]; have hb : leap y = false := by simpa using hb
   have HB := Lib.hid hb; clear e hb; go_enter Tryz.func375, Tryz.ntmps375
   go_wp2_with (first | (go_at_call 401; refine (months_any _).mono ?_; rintro e w' ⟨rfl, hE⟩) | (go_at_call 402; refine (leap_any _ _ (by omega) (by omega)).mono ?_; rw [HB.out]; rintro e w' ⟨rfl, rfl⟩)); go_ret; exact ⟨rfl, hE⟩
theorem monthAt_4 (w : World) : (Instr.index 311 (.agg monthsV) (.int .i64 3)).run Tryz.prog w = .ok (.int .i64 90) w := by kernel_rfl
theorem ahead_4 (y : Int) (w : World) (h0 : 0 ≤ y) (h1 : y ≤ 100000) :
 Calls Tryz.prog 375 #[.int .i64 y, .int .i64 4] w fun e w' => e = .returned (.int .i64 (aheadM y 4)) ∧ Ext w w' := by
 have hi := monthAt_4; by_cases hb : leap y = true
 · have e : aheadM y 4 = 91 := by simp [aheadM, monthAt, hb]
   rw [e]; have HB := Lib.hid hb; clear e hb; go_enter Tryz.func375, Tryz.ntmps375
   go_wp2_with (first | (go_at_call 401; refine (months_any _).mono ?_; rintro e w' ⟨rfl, hE⟩) | (go_at_call 402; refine (leap_any _ _ (by omega) (by omega)).mono ?_; rw [HB.out]; rintro e w' ⟨rfl, rfl⟩)); go_ret; exact ⟨rfl, hE⟩
 · have e : aheadM y 4 = 90 := by simp [aheadM, monthAt, hb]
   rw [e]; have hb : leap y = false := by simpa using hb
   have HB := Lib.hid hb; clear e hb; go_enter Tryz.func375, Tryz.ntmps375
   go_wp2_with (first | (go_at_call 401; refine (months_any _).mono ?_; rintro e w' ⟨rfl, hE⟩) | (go_at_call 402; refine (leap_any _ _ (by omega) (by omega)).mono ?_; rw [HB.out]; rintro e w' ⟨rfl, rfl⟩)); go_ret; exact ⟨rfl, hE⟩
theorem monthAt_5 (w : World) : (Instr.index 311 (.agg monthsV) (.int .i64 4)).run Tryz.prog w = .ok (.int .i64 120) w := by kernel_rfl
theorem ahead_5 (y : Int) (w : World) (h0 : 0 ≤ y) (h1 : y ≤ 100000) :
 Calls Tryz.prog 375 #[.int .i64 y, .int .i64 5] w fun e w' => e = .returned (.int .i64 (aheadM y 5)) ∧ Ext w w' := by
 have hi := monthAt_5; by_cases hb : leap y = true
 · have e : aheadM y 5 = 121 := by simp [aheadM, monthAt, hb]
   rw [e]; have HB := Lib.hid hb; clear e hb; go_enter Tryz.func375, Tryz.ntmps375
   go_wp2_with (first | (go_at_call 401; refine (months_any _).mono ?_; rintro e w' ⟨rfl, hE⟩) | (go_at_call 402; refine (leap_any _ _ (by omega) (by omega)).mono ?_; rw [HB.out]; rintro e w' ⟨rfl, rfl⟩)); go_ret; exact ⟨rfl, hE⟩
 · have e : aheadM y 5 = 120 := by simp [aheadM, monthAt, hb]
   rw [e]; have hb : leap y = false := by simpa using hb
   have HB := Lib.hid hb; clear e hb; go_enter Tryz.func375, Tryz.ntmps375
   go_wp2_with (first | (go_at_call 401; refine (months_any _).mono ?_; rintro e w' ⟨rfl, hE⟩) | (go_at_call 402; refine (leap_any _ _ (by omega) (by omega)).mono ?_; rw [HB.out]; rintro e w' ⟨rfl, rfl⟩)); go_ret; exact ⟨rfl, hE⟩
theorem monthAt_6 (w : World) : (Instr.index 311 (.agg monthsV) (.int .i64 5)).run Tryz.prog w = .ok (.int .i64 151) w := by kernel_rfl
theorem ahead_6 (y : Int) (w : World) (h0 : 0 ≤ y) (h1 : y ≤ 100000) :
 Calls Tryz.prog 375 #[.int .i64 y, .int .i64 6] w fun e w' => e = .returned (.int .i64 (aheadM y 6)) ∧ Ext w w' := by
 have hi := monthAt_6; by_cases hb : leap y = true
 · have e : aheadM y 6 = 152 := by simp [aheadM, monthAt, hb]
   rw [e]; have HB := Lib.hid hb; clear e hb; go_enter Tryz.func375, Tryz.ntmps375
   go_wp2_with (first | (go_at_call 401; refine (months_any _).mono ?_; rintro e w' ⟨rfl, hE⟩) | (go_at_call 402; refine (leap_any _ _ (by omega) (by omega)).mono ?_; rw [HB.out]; rintro e w' ⟨rfl, rfl⟩)); go_ret; exact ⟨rfl, hE⟩
 · have e : aheadM y 6 = 151 := by simp [aheadM, monthAt, hb]
   rw [e]; have hb : leap y = false := by simpa using hb
   have HB := Lib.hid hb; clear e hb; go_enter Tryz.func375, Tryz.ntmps375
   go_wp2_with (first | (go_at_call 401; refine (months_any _).mono ?_; rintro e w' ⟨rfl, hE⟩) | (go_at_call 402; refine (leap_any _ _ (by omega) (by omega)).mono ?_; rw [HB.out]; rintro e w' ⟨rfl, rfl⟩)); go_ret; exact ⟨rfl, hE⟩
theorem monthAt_7 (w : World) : (Instr.index 311 (.agg monthsV) (.int .i64 6)).run Tryz.prog w = .ok (.int .i64 181) w := by kernel_rfl
theorem ahead_7 (y : Int) (w : World) (h0 : 0 ≤ y) (h1 : y ≤ 100000) :
 Calls Tryz.prog 375 #[.int .i64 y, .int .i64 7] w fun e w' => e = .returned (.int .i64 (aheadM y 7)) ∧ Ext w w' := by
 have hi := monthAt_7; by_cases hb : leap y = true
 · have e : aheadM y 7 = 182 := by simp [aheadM, monthAt, hb]
   rw [e]; have HB := Lib.hid hb; clear e hb; go_enter Tryz.func375, Tryz.ntmps375
   go_wp2_with (first | (go_at_call 401; refine (months_any _).mono ?_; rintro e w' ⟨rfl, hE⟩) | (go_at_call 402; refine (leap_any _ _ (by omega) (by omega)).mono ?_; rw [HB.out]; rintro e w' ⟨rfl, rfl⟩)); go_ret; exact ⟨rfl, hE⟩
 · have e : aheadM y 7 = 181 := by simp [aheadM, monthAt, hb]
   rw [e]; have hb : leap y = false := by simpa using hb
   have HB := Lib.hid hb; clear e hb; go_enter Tryz.func375, Tryz.ntmps375
   go_wp2_with (first | (go_at_call 401; refine (months_any _).mono ?_; rintro e w' ⟨rfl, hE⟩) | (go_at_call 402; refine (leap_any _ _ (by omega) (by omega)).mono ?_; rw [HB.out]; rintro e w' ⟨rfl, rfl⟩)); go_ret; exact ⟨rfl, hE⟩
theorem monthAt_8 (w : World) : (Instr.index 311 (.agg monthsV) (.int .i64 7)).run Tryz.prog w = .ok (.int .i64 212) w := by kernel_rfl
theorem ahead_8 (y : Int) (w : World) (h0 : 0 ≤ y) (h1 : y ≤ 100000) :
 Calls Tryz.prog 375 #[.int .i64 y, .int .i64 8] w fun e w' => e = .returned (.int .i64 (aheadM y 8)) ∧ Ext w w' := by
 have hi := monthAt_8; by_cases hb : leap y = true
 · have e : aheadM y 8 = 213 := by simp [aheadM, monthAt, hb]
   rw [e]; have HB := Lib.hid hb; clear e hb; go_enter Tryz.func375, Tryz.ntmps375
   go_wp2_with (first | (go_at_call 401; refine (months_any _).mono ?_; rintro e w' ⟨rfl, hE⟩) | (go_at_call 402; refine (leap_any _ _ (by omega) (by omega)).mono ?_; rw [HB.out]; rintro e w' ⟨rfl, rfl⟩)); go_ret; exact ⟨rfl, hE⟩
 · have e : aheadM y 8 = 212 := by simp [aheadM, monthAt, hb]
   rw [e]; have hb : leap y = false := by simpa using hb
   have HB := Lib.hid hb; clear e hb; go_enter Tryz.func375, Tryz.ntmps375
   go_wp2_with (first | (go_at_call 401; refine (months_any _).mono ?_; rintro e w' ⟨rfl, hE⟩) | (go_at_call 402; refine (leap_any _ _ (by omega) (by omega)).mono ?_; rw [HB.out]; rintro e w' ⟨rfl, rfl⟩)); go_ret; exact ⟨rfl, hE⟩
theorem monthAt_9 (w : World) : (Instr.index 311 (.agg monthsV) (.int .i64 8)).run Tryz.prog w = .ok (.int .i64 243) w := by kernel_rfl
theorem ahead_9 (y : Int) (w : World) (h0 : 0 ≤ y) (h1 : y ≤ 100000) :
 Calls Tryz.prog 375 #[.int .i64 y, .int .i64 9] w fun e w' => e = .returned (.int .i64 (aheadM y 9)) ∧ Ext w w' := by
 have hi := monthAt_9; by_cases hb : leap y = true
 · have e : aheadM y 9 = 244 := by simp [aheadM, monthAt, hb]
   rw [e]; have HB := Lib.hid hb; clear e hb; go_enter Tryz.func375, Tryz.ntmps375
   go_wp2_with (first | (go_at_call 401; refine (months_any _).mono ?_; rintro e w' ⟨rfl, hE⟩) | (go_at_call 402; refine (leap_any _ _ (by omega) (by omega)).mono ?_; rw [HB.out]; rintro e w' ⟨rfl, rfl⟩)); go_ret; exact ⟨rfl, hE⟩
 · have e : aheadM y 9 = 243 := by simp [aheadM, monthAt, hb]
   rw [e]; have hb : leap y = false := by simpa using hb
   have HB := Lib.hid hb; clear e hb; go_enter Tryz.func375, Tryz.ntmps375
   go_wp2_with (first | (go_at_call 401; refine (months_any _).mono ?_; rintro e w' ⟨rfl, hE⟩) | (go_at_call 402; refine (leap_any _ _ (by omega) (by omega)).mono ?_; rw [HB.out]; rintro e w' ⟨rfl, rfl⟩)); go_ret; exact ⟨rfl, hE⟩
theorem monthAt_10 (w : World) : (Instr.index 311 (.agg monthsV) (.int .i64 9)).run Tryz.prog w = .ok (.int .i64 273) w := by kernel_rfl
theorem ahead_10 (y : Int) (w : World) (h0 : 0 ≤ y) (h1 : y ≤ 100000) :
 Calls Tryz.prog 375 #[.int .i64 y, .int .i64 10] w fun e w' => e = .returned (.int .i64 (aheadM y 10)) ∧ Ext w w' := by
 have hi := monthAt_10; by_cases hb : leap y = true
 · have e : aheadM y 10 = 274 := by simp [aheadM, monthAt, hb]
   rw [e]; have HB := Lib.hid hb; clear e hb; go_enter Tryz.func375, Tryz.ntmps375
   go_wp2_with (first | (go_at_call 401; refine (months_any _).mono ?_; rintro e w' ⟨rfl, hE⟩) | (go_at_call 402; refine (leap_any _ _ (by omega) (by omega)).mono ?_; rw [HB.out]; rintro e w' ⟨rfl, rfl⟩)); go_ret; exact ⟨rfl, hE⟩
 · have e : aheadM y 10 = 273 := by simp [aheadM, monthAt, hb]
   rw [e]; have hb : leap y = false := by simpa using hb
   have HB := Lib.hid hb; clear e hb; go_enter Tryz.func375, Tryz.ntmps375
   go_wp2_with (first | (go_at_call 401; refine (months_any _).mono ?_; rintro e w' ⟨rfl, hE⟩) | (go_at_call 402; refine (leap_any _ _ (by omega) (by omega)).mono ?_; rw [HB.out]; rintro e w' ⟨rfl, rfl⟩)); go_ret; exact ⟨rfl, hE⟩
theorem monthAt_11 (w : World) : (Instr.index 311 (.agg monthsV) (.int .i64 10)).run Tryz.prog w = .ok (.int .i64 304) w := by kernel_rfl
theorem ahead_11 (y : Int) (w : World) (h0 : 0 ≤ y) (h1 : y ≤ 100000) :
 Calls Tryz.prog 375 #[.int .i64 y, .int .i64 11] w fun e w' => e = .returned (.int .i64 (aheadM y 11)) ∧ Ext w w' := by
 have hi := monthAt_11; by_cases hb : leap y = true
 · have e : aheadM y 11 = 305 := by simp [aheadM, monthAt, hb]
   rw [e]; have HB := Lib.hid hb; clear e hb; go_enter Tryz.func375, Tryz.ntmps375
   go_wp2_with (first | (go_at_call 401; refine (months_any _).mono ?_; rintro e w' ⟨rfl, hE⟩) | (go_at_call 402; refine (leap_any _ _ (by omega) (by omega)).mono ?_; rw [HB.out]; rintro e w' ⟨rfl, rfl⟩)); go_ret; exact ⟨rfl, hE⟩
 · have e : aheadM y 11 = 304 := by simp [aheadM, monthAt, hb]
   rw [e]; have hb : leap y = false := by simpa using hb
   have HB := Lib.hid hb; clear e hb; go_enter Tryz.func375, Tryz.ntmps375
   go_wp2_with (first | (go_at_call 401; refine (months_any _).mono ?_; rintro e w' ⟨rfl, hE⟩) | (go_at_call 402; refine (leap_any _ _ (by omega) (by omega)).mono ?_; rw [HB.out]; rintro e w' ⟨rfl, rfl⟩)); go_ret; exact ⟨rfl, hE⟩
theorem monthAt_12 (w : World) : (Instr.index 311 (.agg monthsV) (.int .i64 11)).run Tryz.prog w = .ok (.int .i64 334) w := by kernel_rfl
theorem ahead_12 (y : Int) (w : World) (h0 : 0 ≤ y) (h1 : y ≤ 100000) :
 Calls Tryz.prog 375 #[.int .i64 y, .int .i64 12] w fun e w' => e = .returned (.int .i64 (aheadM y 12)) ∧ Ext w w' := by
 have hi := monthAt_12; by_cases hb : leap y = true
 · have e : aheadM y 12 = 335 := by simp [aheadM, monthAt, hb]
   rw [e]; have HB := Lib.hid hb; clear e hb; go_enter Tryz.func375, Tryz.ntmps375
   go_wp2_with (first | (go_at_call 401; refine (months_any _).mono ?_; rintro e w' ⟨rfl, hE⟩) | (go_at_call 402; refine (leap_any _ _ (by omega) (by omega)).mono ?_; rw [HB.out]; rintro e w' ⟨rfl, rfl⟩)); go_ret; exact ⟨rfl, hE⟩
 · have e : aheadM y 12 = 334 := by simp [aheadM, monthAt, hb]
   rw [e]; have hb : leap y = false := by simpa using hb
   have HB := Lib.hid hb; clear e hb; go_enter Tryz.func375, Tryz.ntmps375
   go_wp2_with (first | (go_at_call 401; refine (months_any _).mono ?_; rintro e w' ⟨rfl, hE⟩) | (go_at_call 402; refine (leap_any _ _ (by omega) (by omega)).mono ?_; rw [HB.out]; rintro e w' ⟨rfl, rfl⟩)); go_ret; exact ⟨rfl, hE⟩
theorem monthAt_13 (w : World) : (Instr.index 311 (.agg monthsV) (.int .i64 12)).run Tryz.prog w = .ok (.int .i64 365) w := by kernel_rfl
theorem ahead_13 (y : Int) (w : World) (h0 : 0 ≤ y) (h1 : y ≤ 100000) :
 Calls Tryz.prog 375 #[.int .i64 y, .int .i64 13] w fun e w' => e = .returned (.int .i64 (aheadM y 13)) ∧ Ext w w' := by
 have hi := monthAt_13; by_cases hb : leap y = true
 · have e : aheadM y 13 = 366 := by simp [aheadM, monthAt, hb]
   rw [e]; have HB := Lib.hid hb; clear e hb; go_enter Tryz.func375, Tryz.ntmps375
   go_wp2_with (first | (go_at_call 401; refine (months_any _).mono ?_; rintro e w' ⟨rfl, hE⟩) | (go_at_call 402; refine (leap_any _ _ (by omega) (by omega)).mono ?_; rw [HB.out]; rintro e w' ⟨rfl, rfl⟩)); go_ret; exact ⟨rfl, hE⟩
 · have e : aheadM y 13 = 365 := by simp [aheadM, monthAt, hb]
   rw [e]; have hb : leap y = false := by simpa using hb
   have HB := Lib.hid hb; clear e hb; go_enter Tryz.func375, Tryz.ntmps375
   go_wp2_with (first | (go_at_call 401; refine (months_any _).mono ?_; rintro e w' ⟨rfl, hE⟩) | (go_at_call 402; refine (leap_any _ _ (by omega) (by omega)).mono ?_; rw [HB.out]; rintro e w' ⟨rfl, rfl⟩)); go_ret; exact ⟨rfl, hE⟩
theorem ahead_any (y m : Int) (w : World) (h0 : 0 ≤ y) (h1 : y ≤ 100000) (h2 : 1 ≤ m) (h3 : m ≤ 13) :
 Calls Tryz.prog 375 #[.int .i64 y, .int .i64 m] w fun e w' => e = .returned (.int .i64 (aheadM y m)) ∧ Ext w w' := by
 have hc : m = 1 ∨ m = 2 ∨ m = 3 ∨ m = 4 ∨ m = 5 ∨ m = 6 ∨ m = 7 ∨ m = 8 ∨ m = 9 ∨ m = 10 ∨ m = 11 ∨ m = 12 ∨ m = 13 := by omega
 rcases hc with rfl | rfl | rfl | rfl | rfl | rfl | rfl | rfl | rfl | rfl | rfl | rfl | rfl
 · exact ahead_1 y w h0 h1
 · exact ahead_2 y w h0 h1
 · exact ahead_3 y w h0 h1
 · exact ahead_4 y w h0 h1
 · exact ahead_5 y w h0 h1
 · exact ahead_6 y w h0 h1
 · exact ahead_7 y w h0 h1
 · exact ahead_8 y w h0 h1
 · exact ahead_9 y w h0 h1
 · exact ahead_10 y w h0 h1
 · exact ahead_11 y w h0 h1
 · exact ahead_12 y w h0 h1
 · exact ahead_13 y w h0 h1
def dayV (o : Option Int) : Value := .tuple #[.int .i64 (o.getD 0), .bool o.isSome]
theorem number_neg (date : Int) (w : World) (h : date < 0) :
 Calls Tryz.prog 292 #[.int .i64 date] w fun e w' => e = .returned (dayV (dayOf date)) ∧ Ext w w' := by
 have e : dayOf date = none := by simp [dayOf, h]
 rw [e]; go_enter Tryz.func292, Tryz.ntmps292
 go_wp2; go_ret2; exact ⟨rfl, Ext.refl _⟩
theorem number_any (date : Int) (w : World) (h0 : 0 ≤ date) (h9 : date ≤ 9223372036854775807) :
 Calls Tryz.prog 292 #[.int .i64 date] w fun e w' => e = .returned (dayV (dayOf date)) ∧ Ext w w' := by
 by_cases a : date / 10000 < 1970
 · have e : dayOf date = none := by simp [dayOf, a]
   rw [e]; clear e; go_enter Tryz.func292, Tryz.ntmps292
   go_wp2; go_ret2; exact ⟨rfl, Ext.refl _⟩
 by_cases b : 9999 < date / 10000
 · have e : dayOf date = none := by simp [dayOf, b]
   rw [e]; clear e; go_enter Tryz.func292, Tryz.ntmps292
   go_wp2; go_ret2; exact ⟨rfl, Ext.refl _⟩
 by_cases c : date / 100 % 100 < 1
 · have e : dayOf date = none := by simp [dayOf, c]
   rw [e]; clear e; go_enter Tryz.func292, Tryz.ntmps292
   go_wp2; go_ret2; exact ⟨rfl, Ext.refl _⟩
 by_cases d : 12 < date / 100 % 100
 · have e : dayOf date = none := by simp [dayOf, d]
   rw [e]; clear e; go_enter Tryz.func292, Tryz.ntmps292
   go_wp2; go_ret2; exact ⟨rfl, Ext.refl _⟩
 by_cases f : date % 100 < 1
 · have e : dayOf date = none := by simp [dayOf, f]
   rw [e]; clear e; go_enter Tryz.func292, Tryz.ntmps292
   go_wp2; go_ret2; exact ⟨rfl, Ext.refl _⟩
 have e : dayOf date = if aheadM (date / 10000) (date / 100 % 100 + 1) - aheadM (date / 10000) (date / 100 % 100) < date % 100 then none else
     some (aheadY (date / 10000) + aheadM (date / 10000) (date / 100 % 100) + date % 100 - 1) := by
  simp only [dayOf]; by_cases g : aheadM (date / 10000) (date / 100 % 100 + 1) - aheadM (date / 10000) (date / 100 % 100) < date % 100
  · rw [if_pos g, if_pos (by omega)]
  · rw [if_neg g, if_neg (by omega)]
 rw [e]; clear e; have r1 := aheadM_range (date / 10000) (date / 100 % 100) (by omega) (by omega); have r2 := aheadM_range (date / 10000) (date / 100 % 100 + 1) (by omega) (by omega); have r3 := aheadY_range (date / 10000) (by omega) (by omega); by_cases g : aheadM (date / 10000) (date / 100 % 100 + 1) - aheadM (date / 10000) (date / 100 % 100) < date % 100
 · rw [if_pos g]; have hX := Ext.refl w; go_enter Tryz.func292, Tryz.ntmps292
   go_wp2_with (first | (go_at_call 375; refine (ahead_any _ _ _ (by omega) (by omega) (by omega) (by omega)).mono ?_; rintro e w' ⟨rfl, hE⟩; replace hX := Ext.trans hX hE; clear hE)); go_ret2; exact ⟨rfl, hX⟩
 · rw [if_neg g]; have hX := Ext.refl w; go_enter Tryz.func292, Tryz.ntmps292
   go_wp2_with (first | (go_at_call 375; refine (ahead_any _ _ _ (by omega) (by omega) (by omega) (by omega)).mono ?_; rintro e w' ⟨rfl, hE⟩; replace hX := Ext.trans hX hE; clear hE) | (go_at_call 376; refine (years_any _ _ (by omega) (by omega)).mono ?_; rintro e w' ⟨rfl, rfl⟩)); go_ret2; exact ⟨rfl, hX⟩
theorem number_calls (date : Int) (w : World) (h9 : date ≤ 9223372036854775807) :
 Calls Tryz.prog 292 #[.int .i64 date] w fun e w' => e = .returned (dayV (dayOf date)) ∧ Ext w w' := by
 by_cases h : date < 0
 · exact number_neg date w h
 · exact number_any date w (by omega) h9
theorem dayOf_range {date d : Int} (h : dayOf date = some d) : 0 ≤ d ∧ d < 2932897 := by
 simp only [dayOf] at h; split at h
 · cases h
 · rename_i hn
   simp only [Option.some.injEq] at h; have := monthAt_range (date / 100 % 100 - 1) (by omega) (by omega); have r1 := aheadM_range (date / 10000) (date / 100 % 100) (by omega) (by omega); have r2 := aheadM_range (date / 10000) (date / 100 % 100 + 1) (by omega) (by omega); have r4 : aheadM (date / 10000) (date / 100 % 100 + 1) ≤ aheadM (date / 10000) 13 := by
    have hm : date / 100 % 100 = 1 ∨ date / 100 % 100 = 2 ∨ date / 100 % 100 = 3 ∨ date / 100 % 100 = 4 ∨ date / 100 % 100 = 5 ∨ date / 100 % 100 = 6 ∨ date / 100 % 100 = 7 ∨ date / 100 % 100 = 8 ∨ date / 100 % 100 = 9 ∨ date / 100 % 100 = 10 ∨ date / 100 % 100 = 11 ∨ date / 100 % 100 = 12 := by omega
    rcases hm with h | h | h | h | h | h | h | h | h | h | h | h <;> rw [h] <;> simp [aheadM, monthAt] <;> split <;> (try split) <;> omega
   have r3 := aheadY_range (date / 10000) (by omega) (by omega); have r5 : aheadY (date / 10000) + aheadM (date / 10000) 13 ≤ 2932897 := by
    have e13 : aheadM (date / 10000) 13 = 365 + if leap (date / 10000) = true then 1 else 0 := by simp [aheadM, monthAt]
    rw [e13]; unfold aheadY leap; simp only [Bool.and_eq_true, beq_iff_eq, Bool.or_eq_true, bne_iff_ne, ne_eq]; split <;> omega
   omega
theorem start_calls (date : Int) (w : World) (h9 : date ≤ 9223372036854775807) :
 Calls Tryz.prog 222 #[.int .i64 date] w fun e w' => e = .returned (.tuple #[.int .i64 ((dayOf date).getD 0 * 86400000), .int .i64 (if (dayOf date).isSome then 0 else 21)]) ∧ Ext w w' := by
 cases hd : dayOf date with
 | none =>
  have HD := Lib.hid hd; clear hd; go_enter Tryz.func222, Tryz.ntmps222
  go_wp2_with (first | (go_at_call 292; refine (number_calls _ _ h9).mono ?_; rw [HD.out]; rintro e w' ⟨rfl, hE⟩; simp only [dayV, Option.getD_none, Option.isSome_none])); go_ret2; exact ⟨rfl, hE⟩
 | some d =>
  have hr := dayOf_range hd; have HD := Lib.hid hd; clear hd; go_enter Tryz.func222, Tryz.ntmps222
  go_wp2_with (first | (go_at_call 292; refine (number_calls _ _ h9).mono ?_; rw [HD.out]; rintro e w' ⟨rfl, hE⟩; simp only [dayV, Option.getD_some, Option.isSome_some])); go_ret2; exact ⟨rfl, hE⟩
theorem isDate_calls (m : Msg) (hm : WT m) (w : World) :
 Calls Tryz.prog 98 #[.agg (msgV m)] w fun e w' => e = .returned (.bool (dayOf (gi m 31)).isSome) ∧ Ext w w' := by
 have hs := msgV_size hm; have hx := msgV_at hm (k := 31) (by decide); rw [cellAt_int hm rfl] at hx; have hr := (hm.gi_range (k := 31) rfl).2; generalize msgV m = cs at *; generalize gi m 31 = x at *; clear hm; have hxx := eq_of_get hx (by omega); have HX := Lib.hid hxx; clear hxx; cases hd : dayOf x with
 | none =>
  have HD := Lib.hid hd; clear hd; go_enter Tryz.func98, Tryz.ntmps98
  go_wp2_with (first | (go_at_call 222; rw [HX.out]; refine (start_calls _ _ hr).mono ?_; rw [HD.out]; rintro e w' ⟨rfl, hE⟩; simp only [Option.getD_none, Option.isSome_none])); go_ret; exact ⟨rfl, ((Ext.refl _).alloc _).trans hE⟩
 | some d =>
  have HD := Lib.hid hd; clear hd; go_enter Tryz.func98, Tryz.ntmps98
  go_wp2_with (first | (go_at_call 222; rw [HX.out]; refine (start_calls _ _ hr).mono ?_; rw [HD.out]; rintro e w' ⟨rfl, hE⟩; simp only [Option.getD_some, Option.isSome_some])); go_ret; exact ⟨rfl, ((Ext.refl _).alloc _).trans hE⟩
end
end Go.Proofs.YtdmjinlgdkgoiaaGreatDoor
