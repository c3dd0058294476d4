/- Of the layer fix: MsgName. -/
import Derived.Test.YtdmjinlgdkgoiaaGreatDoorFeAc
import Derived.Test.YtdmjinlgdkgoiaaGreatDoorFeAd
set_option linter.unusedVariables false
set_option linter.unusedSimpArgs false
set_option maxRecDepth 100000
namespace Go.Proofs.YtdmjinlgdkgoiaaGreatDoor
section
open Go Go.RowKit
set_option maxHeartbeats 400000
attribute [local go_sem] ba_get
theorem dropWhile_nil (p : UInt8 → Bool) (l : List UInt8) : (l.dropWhile p).isEmpty = l.all p := by
 induction l with
 | nil => rfl
 | cons x l ih => by_cases h : p x = true <;> simp [List.dropWhile_cons, h, ih]
theorem all_dropWhile (p : UInt8 → Bool) (l : List UInt8) : (l.dropWhile p).all p = l.all p := by
 induction l with
 | nil => rfl
 | cons x l ih => by_cases h : p x = true <;> simp [List.dropWhile_cons, h, ih]
theorem trim_all (s cs : List UInt8) : (Lib.trimS s cs).isEmpty = s.all (fun c => cs.contains c) := by
 unfold Lib.trimS Lib.trimLeftS Lib.trimRightS; rw [dropWhile_nil, List.all_reverse, all_dropWhile, List.all_reverse]
theorem trim_calls (s signs : List UInt8) (hs : s.length ≤ 140737488355328) (hcs : signs.length < 1000) (hascii : signs.all (fun c => decide (c.toNat < 128)) = true) (w : World) :
 Calls Tryz.prog 293 #[.string ⟨s.toArray⟩, .string ⟨signs.toArray⟩] w fun e w' => e = .returned (.string ⟨(Lib.trimS s signs).toArray⟩) ∧ Ext w w' :=
 Any.strings_Trim_laid Tryz.lays160 (by kernel_rfl) ⟨s.toArray⟩ ⟨signs.toArray⟩ w (by simp [ByteArray.size]; omega) (by simp [ByteArray.size]; omega)
  (fun j b hj => by
    have := List.all_eq_true.1 hascii b (List.mem_of_getElem? (by simpa using hj)); simpa using this)
theorem only_calls (s : List UInt8) (least most : Nat) (signs : List UInt8) (w : World) (hs : s.length ≤ 140737488355328) (hl : least ≤ 100) (hm : most ≤ 100)
 (hcs : signs.length < 1000) (hascii : signs.all (fun c => decide (c.toNat < 128)) = true) :
 Calls Tryz.prog 225 #[.string ⟨s.toArray⟩, .int .i64 least, .int .i64 most, .string ⟨signs.toArray⟩] w fun e w' =>
  e = .returned (.bool (decide (least ≤ s.length) && decide (s.length ≤ most) && s.all (fun c => signs.contains c))) ∧ Ext w w' := by
 have HC := Lib.hid (trim_calls s signs hs hcs hascii); clear hcs hascii; by_cases h1 : least ≤ s.length
 · by_cases h2 : s.length ≤ most
   · have e : (decide (least ≤ s.length) && decide (s.length ≤ most) && s.all (fun c => signs.contains c)) = (Lib.trimS s signs).isEmpty := by rw [trim_all]; simp [h1, h2]
     rw [e]; clear e; generalize Lib.trimS s signs = r at *; go_enter Tryz.func225, Tryz.ntmps225
     go_wp2_with (first | (refine (HC.out _).mono ?_; rintro e w' ⟨rfl, hE⟩)); go_ret; refine ⟨?_, hE⟩; cases r <;> simp
   · have e : (decide (least ≤ s.length) && decide (s.length ≤ most) && s.all (fun c => signs.contains c)) = false := by simp [h2]
     rw [e]; clear e; go_enter Tryz.func225, Tryz.ntmps225
     go_wp2; go_ret; exact ⟨rfl, Ext.refl _⟩
 · have e : (decide (least ≤ s.length) && decide (s.length ≤ most) && s.all (fun c => signs.contains c)) = false := by simp [h1]
   rw [e]; clear e; go_enter Tryz.func225, Tryz.ntmps225
   go_wp2; go_ret; exact ⟨rfl, Ext.refl _⟩
def greatL : List UInt8 := [65, 66, 67, 68, 69, 70, 71, 72, 73, 74, 75, 76, 77, 78, 79, 80, 81, 82, 83, 84, 85, 86, 87, 88, 89, 90]
def digitsL : List UInt8 := [48, 49, 50, 51, 52, 53, 54, 55, 56, 57]
def smallL : List UInt8 := [97, 98, 99, 100, 101, 102, 103, 104, 105, 106, 107, 108, 109, 110, 111, 112, 113, 114, 115, 116, 117, 118, 119, 120, 121, 122]
def nameL : List UInt8 := greatL ++ digitsL
def idL : List UInt8 := greatL ++ smallL ++ digitsL ++ [46, 95, 45]
theorem byte_all {p : UInt8 → Bool} (h : (List.range 256).all (fun n => p (UInt8.ofNat n)) = true) (c : UInt8) : p c = true := by
 have := List.all_eq_true.1 h c.toNat (List.mem_range.2 c.toNat_lt); simpa using this
theorem nameL_spec (c : UInt8) : nameL.contains c = nameSign c := by
 have := byte_all (p := fun c => nameL.contains c == nameSign c) (by decide +kernel) c; simpa using this
theorem idL_spec (c : UInt8) : idL.contains c = idSign c := by
 have := byte_all (p := fun c => idL.contains c == idSign c) (by decide +kernel) c; simpa using this
theorem all_congr {p q : UInt8 → Bool} (h : ∀ c, p c = q c) (s : List UInt8) : s.all p = s.all q := by
 have : p = q := funext h; rw [this]
theorem isName_calls (s : List UInt8) (w : World) (hs : s.length ≤ 140737488355328) :
 Calls Tryz.prog 101 #[.string ⟨s.toArray⟩] w fun e w' => e = .returned (.bool (isName s)) ∧ Ext w w' := by
 unfold isName; rw [← all_congr nameL_spec]; have HC := Lib.hid (fun w => only_calls s 1 12 nameL w hs (by decide) (by decide) (by decide) (by decide)); generalize (decide (1 ≤ s.length) && decide (s.length ≤ 12) && s.all (fun c => nameL.contains c)) = r at *; go_enter Tryz.func101, Tryz.ntmps101
 go_wp2_with (first | (go_at_call 225; refine (HC.out _).mono ?_; rintro e w' ⟨rfl, hE⟩)); go_ret; exact ⟨rfl, hE⟩
theorem isID_calls (s : List UInt8) (w : World) (hs : s.length ≤ 140737488355328) :
 Calls Tryz.prog 125 #[.string ⟨s.toArray⟩] w fun e w' => e = .returned (.bool (isID s)) ∧ Ext w w' := by
 unfold isID; rw [← all_congr idL_spec]; have HC := Lib.hid (fun w => only_calls s 1 20 idL w hs (by decide) (by decide) (by decide) (by decide)); generalize (decide (1 ≤ s.length) && decide (s.length ≤ 20) && s.all (fun c => idL.contains c)) = r at *; go_enter Tryz.func125, Tryz.ntmps125
 go_wp2_with (first | (go_at_call 225; refine (HC.out _).mono ?_; rintro e w' ⟨rfl, hE⟩)); go_ret; exact ⟨rfl, hE⟩
theorem great_index (c : UInt8) : decide (0 ≤ Lib.indexByte greatL c) = isGreat c := by
 have := byte_all (p := fun c => decide (0 ≤ Lib.indexByte greatL c) == isGreat c) (by decide +kernel) c; simpa using this
theorem index_calls (c : UInt8) (w : World) : Calls Tryz.prog 228 #[.string ⟨greatL.toArray⟩, .int .u8 (c.toNat : Int)] w fun e w' => e = .returned (.int .i64 (Lib.indexByte greatL c)) ∧ w = w' :=
 (Tryz.strings_IndexByte ⟨greatL.toArray⟩ (c.toNat : Int) w).mono fun e w' ⟨h1, h2⟩ => ⟨by simpa using h1, h2.symm⟩
theorem isSymbol_calls (s : List UInt8) (w : World) (hs : s.length ≤ 140737488355328) :
 Calls Tryz.prog 129 #[.string ⟨s.toArray⟩] w fun e w' => e = .returned (.bool (isSymbol s)) ∧ Ext w w' := by
 unfold isSymbol; rw [← all_congr nameL_spec]; by_cases h : (decide (1 ≤ s.length) && decide (s.length ≤ 8) && s.all (fun c => nameL.contains c)) = true
 · rw [h, Bool.true_and]; have hp : 0 < s.length := by simp at h; omega
   have hh : s.headD 0 = s[0] := by cases s with | nil => simp at hp | cons x l => rfl
   rw [hh, ← great_index]; have H := Lib.hid h; clear h hh; generalize hg : s[0] = c; have HG := Lib.hid hg; go_enter Tryz.func129, Tryz.ntmps129
   go_wp2_with (first | (go_at_call 225; refine (only_calls s 1 8 nameL _ hs (by decide) (by decide) (by decide) (by decide)).mono ?_; rw [H.out]; rintro e w' ⟨rfl, hE⟩) | (go_at_call 228; refine (index_calls c _).mono ?_; rintro e w' ⟨rfl, rfl⟩)); go_ret; exact ⟨rfl, hE⟩
 · have h := Bool.eq_false_iff.2 h; rw [h, Bool.false_and]; have H := Lib.hid h; clear h; go_enter Tryz.func129, Tryz.ntmps129
   go_wp2_with (first | (go_at_call 225; refine (only_calls s 1 8 nameL _ hs (by decide) (by decide) (by decide) (by decide)).mono ?_; rw [H.out]; rintro e w' ⟨rfl, hE⟩)); go_ret; exact ⟨rfl, hE⟩
theorem fn_isName : FnStr 101 isName := ⟨fun args w => by go_simp, isName_calls⟩
theorem fn_isID : FnStr 125 isID := ⟨fun args w => by go_simp, isID_calls⟩
theorem fn_isSymbol : FnStr 129 isSymbol := ⟨fun args w => by go_simp, isSymbol_calls⟩
end
end Go.Proofs.YtdmjinlgdkgoiaaGreatDoor
