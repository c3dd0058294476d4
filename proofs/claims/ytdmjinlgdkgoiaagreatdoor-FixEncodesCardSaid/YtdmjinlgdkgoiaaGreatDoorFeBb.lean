/- Of the layer fix: RefMsg. -/
import Derived.Test.YtdmjinlgdkgoiaaGreatDoorFeAw
import Derived.Test.YtdmjinlgdkgoiaaGreatDoorFeAy
import Derived.Test.YtdmjinlgdkgoiaaGreatDoorFeBa
set_option linter.unusedVariables false
set_option linter.unusedSimpArgs false
set_option maxRecDepth 100000
namespace Go.Proofs.YtdmjinlgdkgoiaaGreatDoor
section
open Go Go.RowKit
set_option maxHeartbeats 1600000
attribute [local go_sem] ba_get
theorem rMay_calls (r : Row) (mu ma : Value) (n : Int) (s : List UInt8) (w : World) (hs : s.length ≤ 140737488355328) (hn : -9223372036854775808 ≤ n ∧ n ≤ 9223372036854775807) :
 Calls Tryz.prog 82 #[.agg (rowV r mu ma), .int .i64 n, .string ⟨s.toArray⟩] w fun e w' => e = .returned (.bool (fine3 r n s)) ∧ Ext w w' := by
 have hX := (Ext.refl w).alloc (.cells (rowV r mu ma) 135); have H1 := Lib.hid (rIsName_calls s (w.alloc (.cells (rowV r mu ma) 135)) hs); have H2 := Lib.hid (rIsID_calls s (w.alloc (.cells (rowV r mu ma) 135)) hs); have H3 := Lib.hid (rIsSymbol_calls s (w.alloc (.cells (rowV r mu ma) 135)) hs); have H4 := Lib.hid (rIsText_calls s (w.alloc (.cells (rowV r mu ma) 135)) hs); have H5 := Lib.hid (rStart_calls n (w.alloc (.cells (rowV r mu ma) 135)) hn.2 hn.1); have HX := Lib.hid hX; clear hs hX; unfold rowV at *; unfold fine3; obtain ⟨num, what, lo, hi, zero, must, mayk⟩ := r; cases what <;> dsimp only [whatN] at *
 case num =>
  by_cases h1 : lo ≤ n
  · by_cases h2 : n ≤ hi
    · rw [decide_eq_true h1, decide_eq_true h2]; go_enter Tryz.func82, Tryz.ntmps82
      go_wp2; go_ret; exact ⟨rfl, HX.out⟩
    · rw [decide_eq_true h1, decide_eq_false h2]; go_enter Tryz.func82, Tryz.ntmps82
      go_wp2; go_ret; exact ⟨rfl, HX.out⟩
  · rw [decide_eq_false h1, Bool.false_and]; go_enter Tryz.func82, Tryz.ntmps82
    go_wp2; go_ret; exact ⟨rfl, HX.out⟩
 case truth =>
  go_enter Tryz.func82, Tryz.ntmps82
  go_wp2; go_ret; exact ⟨rfl, HX.out⟩
 case name | id | symbol | text =>
  go_enter Tryz.func82, Tryz.ntmps82
  go_wp2_with fail; first | refine H1.out.mono ?_ | refine H2.out.mono ?_ | refine H3.out.mono ?_ | refine H4.out.mono ?_
  rintro e w' ⟨rfl, rfl⟩; go_wp2; go_ret; exact ⟨rfl, HX.out⟩
 case test =>
  have hE : isTest s = (isText s && decide (s.length ≤ 20)) := by unfold isTest; cases isText s <;> simp
  rw [hE]; clear hE; rcases ht : isText s with _ | _
  · rw [ht] at H4; rw [Bool.false_and]; clear ht; go_enter Tryz.func82, Tryz.ntmps82
    go_wp2_with fail; refine H4.out.mono ?_; rintro e w' ⟨rfl, rfl⟩; go_wp2; go_ret; exact ⟨rfl, HX.out⟩
  · rw [ht] at H4; rw [Bool.true_and]; clear ht; go_enter Tryz.func82, Tryz.ntmps82
    go_wp2_with fail; refine H4.out.mono ?_; rintro e w' ⟨rfl, rfl⟩; go_wp2; go_ret; refine ⟨?_, HX.out⟩; simp
    omega
 case date =>
  rcases hd : dayOf n with _ | d
  all_goals
   rw [hd] at H5; have H7 := H5.out; simp only [Option.getD_none, Option.getD_some, Option.isSome_none, Option.isSome_some] at H7; have H8 := Lib.hid H7; clear hd H7; go_enter Tryz.func82, Tryz.ntmps82
   go_wp2_with fail; refine H8.out.mono ?_; rintro e w' ⟨rfl, hE⟩; go_wp2; go_ret; exact ⟨rfl, HX.out.trans hE⟩
end
end Go.Proofs.YtdmjinlgdkgoiaaGreatDoor
