/- Of the layer fix: RefWritten. -/
import Derived.Test.YtdmjinlgdkgoiaaGreatDoorFeAw
import Derived.Test.YtdmjinlgdkgoiaaGreatDoorFeAy
set_option linter.unusedVariables false
set_option linter.unusedSimpArgs false
set_option maxRecDepth 100000
namespace Go.Proofs.YtdmjinlgdkgoiaaGreatDoor
section
open Go Go.RowKit
set_option maxHeartbeats 1600000
attribute [local go_sem] ba_get
theorem neq_some (ad : Addr) (n : Nat) (w : World) : (binOp .neq 206 (.slice (some ad) n n) (.slice none 0 0)).run Tryz.prog w = .ok (.bool true) w := by kernel_rfl
theorem neq_none (w : World) : (binOp .neq 206 (.slice none 0 0) (.slice none 0 0)).run Tryz.prog w = .ok (.bool false) w := by kernel_rfl
attribute [local go_sem ↓] neq_some neq_none
theorem codes_ne {num : Int} {c : List (List UInt8)} (h : codesL num = some c) : 1 ≤ c.length ∧ c.length ≤ 20 := by
 unfold codesL at h; split at h
 · cases h; decide
 split at h
 · cases h; decide
 split at h
 · cases h; decide
 split at h
 · cases h; decide
 split at h
 · cases h; decide
 split at h
 · cases h; decide
 split at h
 · cases h; decide
 · cases h
theorem written5_calls (num n : Int) (s : List UInt8) (w : World) (hw : writable num n = true) (h0 : 0 ≤ n) (h9 : n ≤ 9223372036854775807) (hs : s.length ≤ 140737488355328) :
 Calls Tryz.prog 86 #[.int .i64 num, .int .i64 n, .string ⟨s.toArray⟩] w fun e w' => e = .returned (.string ⟨(written3 num n s).toArray⟩) ∧ Ext w w' := by
 have HC := Lib.hid (codes_calls num w); have HF := Lib.hid (fun w => isFlag_calls num w); have HT := Lib.hid (fun w => isTime5_calls num w); have HP := Lib.hid (fun w => isPrice_calls num w); have HX := Lib.hid (fun w => isText5_calls num w); unfold writable at hw; unfold written3; rcases hc : codesL num with _ | c
 · rw [hc] at hw HC; simp only [Bool.and_eq_true, Bool.or_eq_true, Bool.not_eq_true', decide_eq_true_eq] at hw; obtain ⟨hwt, hwp⟩ := hw; dsimp only at HC ⊢; obtain ⟨bf, hbf⟩ : ∃ b, flagN num = b := ⟨_, rfl⟩
   obtain ⟨bt, hbt⟩ : ∃ b, timeN num = b := ⟨_, rfl⟩
   obtain ⟨bp, hbp⟩ : ∃ b, priceN num = b := ⟨_, rfl⟩
   obtain ⟨bx, hbx⟩ : ∃ b, textN num = b := ⟨_, rfl⟩
   rw [hbf] at HF ⊢; rw [hbt] at HT hwt ⊢; rw [hbp] at HP hwp ⊢; rw [hbx] at HX ⊢; clear hbf hbt hbp hbx hc; have HS : RowKit.Hid (bt = true → 0 ≤ n ∧ n ≤ maxMs) := Lib.hid (fun h => by rcases hwt with h1 | h1; rw [h] at h1; cases h1; unfold maxMs; unfold maxTime at h1; omega); have HQ : RowKit.Hid (bp = true → 0 ≤ n ∧ n ≤ 1000000000) := Lib.hid (fun h => by rcases hwp with h1 | h1; rw [h] at h1; cases h1; unfold maxPrice at h1; omega); clear hwt hwp; obtain ⟨k, rfl⟩ : ∃ k : Nat, n = (k : Int) := ⟨n.toNat, by omega⟩
   have hz : (num == 37) = false ∨ (num == 37) = true ∧ ((k : Int) == 0) = false ∨ (num == 37) = true ∧ ((k : Int) == 0) = true := by
    cases (num == 37) <;> cases ((k : Int) == 0) <;> simp
   cases bf
   case' true =>
    have HGO : RowKit.Hid True := Lib.hid trivial; simp only [if_true]
   case' false =>
    simp only [Bool.false_eq_true, if_false]; cases bt
    case' true => simp only [if_true]
    case' false =>
     simp only [Bool.false_eq_true, if_false]; cases bp
     case' true => simp only [if_true]
     case' false =>
      simp only [Bool.false_eq_true, if_false]; cases bx
      case' true => simp only [if_true]
      case' false =>
       simp only [Bool.false_eq_true, if_false]; rcases hz with z1 | ⟨z1, z2⟩ | ⟨z1, z2⟩
       all_goals simp only [z1, Bool.true_and, Bool.false_and, Bool.false_eq_true, if_false, if_true]
       all_goals (try simp only [z2, Bool.false_eq_true, if_false, if_true])
   all_goals
    go_enter Tryz.func86, Tryz.ntmps86
    go_wp2_with fail; refine HC.out.mono ?_; rintro e w1 ⟨⟨v, rfl, rfl⟩, hE1⟩; have HE1 := Lib.hid hE1; clear hE1; go_wp2_with fail; refine (HF.out _).mono ?_; rintro e w2 ⟨rfl, hE2⟩; have HE2 := Lib.hid (HE1.out.trans hE2); clear hE2; go_wp2_with fail; refine (HT.out _).mono ?_; rintro e w' ⟨rfl, rfl⟩; go_wp2_with fail; refine (HP.out _).mono ?_; rintro e w3 ⟨rfl, hE3⟩; have HE3 := Lib.hid (HE2.out.trans hE3); clear hE3; go_wp2_with fail; refine (HX.out _).mono ?_; rintro e w4 ⟨rfl, hE4⟩; have HE4 := Lib.hid (HE3.out.trans hE4); clear hE4; go_wp2_with (first
     | (go_at_call 214; go_loud (refine (rStamp_calls _ _ (HS.out (by trivial)).1 (HS.out (by trivial)).2).mono ?_; rintro e w5 ⟨rfl, hE5⟩; replace HE4 := Lib.hid (HE4.out.trans hE5); clear hE5))
     | (go_at_call 215; refine (rPrice_calls k (by have := (HQ.out (by trivial)).2; omega) _).mono ?_; rintro e w5 ⟨rfl, rfl⟩)
     | (go_at_call 63; refine (rPrint_calls k (by omega) _).mono ?_; rintro e w5 ⟨rfl, rfl⟩))
    go_ret; exact ⟨rfl, HE4.out⟩
 · rw [hc] at hw HC; simp only [Bool.and_eq_true, decide_eq_true_eq] at hw; dsimp only at HC ⊢; obtain ⟨hl1, hl2⟩ := codes_ne hc; have HFI := Lib.hid (fun w => first_calls num w); obtain ⟨f, hf⟩ : ∃ f, firstNo num = f := ⟨_, rfl⟩
   rw [hf] at HFI hw ⊢; obtain ⟨i, hi⟩ : ∃ i : Nat, n - f = (i : Int) := ⟨(n - f).toNat, by omega⟩
   have hil : i < c.length := by omega
   have hget : c.getD (n - f).toNat [] = c[i] := by rw [hi, Int.toNat_natCast, List.getD_eq_getElem?_getD, List.getElem?_eq_getElem hil]; rfl
   rw [hget]; have HFB : RowKit.Hid (f = 0 ∨ f = 1) := Lib.hid (by rw [← hf]; unfold firstNo; split <;> simp); have hfb : 0 ≤ f ∧ f ≤ 1 := by rcases HFB.out with h | h <;> omega
   obtain ⟨hf0, hf1⟩ := hfb; clear hget hc hf hw; go_enter Tryz.func86, Tryz.ntmps86
   go_wp2_with fail; refine HC.out.mono ?_; rintro e w1 ⟨⟨v, rfl, ⟨A, rfl, hA⟩, hv⟩, hE1⟩; obtain ⟨ad, rfl, hc0⟩ := hA i hil; have HCI := Lib.hid hc0; have HE1 := Lib.hid hE1; clear hE1 hA hv hc0; go_wp2_with fail; refine (HF.out _).mono ?_; rintro e w2 ⟨rfl, hE2⟩; have HE2 := Lib.hid (HE1.out.trans hE2); have HE12 := Lib.hid hE2; clear hE2; go_wp2_with fail; refine (HT.out _).mono ?_; rintro e w' ⟨rfl, rfl⟩; go_wp2_with fail; refine (HP.out _).mono ?_; rintro e w3 ⟨rfl, hE3⟩; have HE3 := Lib.hid (HE2.out.trans hE3); have HE13 := Lib.hid (HE12.out.trans hE3); clear hE3; go_wp2_with fail; refine (HX.out _).mono ?_; rintro e w4 ⟨rfl, hE4⟩; have HE4 := Lib.hid (HE3.out.trans hE4); have hcell := (HE13.out.trans hE4).cellA HCI.out; clear hE4; go_wp2_with fail; refine (HFI.out _).mono ?_; rintro e w' ⟨rfl, rfl⟩; go_wp2; go_ret; exact ⟨rfl, HE4.out⟩
end
end Go.Proofs.YtdmjinlgdkgoiaaGreatDoor
