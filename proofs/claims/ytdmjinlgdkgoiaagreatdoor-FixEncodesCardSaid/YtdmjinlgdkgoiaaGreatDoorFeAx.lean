/- Of the layer fix: RefNum. -/
import Derived.Test.YtdmjinlgdkgoiaaGreatDoorFeAl
import Derived.Test.YtdmjinlgdkgoiaaGreatDoorFeAo
set_option linter.unusedVariables false
set_option linter.unusedSimpArgs false
set_option maxRecDepth 100000
namespace Go.Proofs.YtdmjinlgdkgoiaaGreatDoor
section
open Go Go.RowKit
set_option maxHeartbeats 1600000
attribute [local go_sem] ba_get ba_append ba_nil ba_cons
theorem rSize_calls (n : Nat) (hn : n ≤ 9223372036854775807) (w : World) :
 Calls Tryz.prog 158 #[.int .i64 n] w fun e w' => e = .returned (.int .u64 n) ∧ w = w' := by
 have h0 : (0 : Int) ≤ n := by omega
 go_enter Tryz.func158, Tryz.ntmps158
 go_wp2; go_ret; exact ⟨rfl, rfl⟩
theorem digitSlice (d : Nat) (h : d < 10) (w : World) : (Instr.slice 9 (.string ⟨#[48, 49, 50, 51, 52, 53, 54, 55, 56, 57]⟩) (some (.int .u64 (d : Int))) (some (.int .u64 ((d : Int) + 1))) none).run Tryz.prog w = .ok (.string ⟨[UInt8.ofNat (48 + d)].toArray⟩) w := by
 have : d = 0 ∨ d = 1 ∨ d = 2 ∨ d = 3 ∨ d = 4 ∨ d = 5 ∨ d = 6 ∨ d = 7 ∨ d = 8 ∨ d = 9 := by omega
 rcases this with rfl | rfl | rfl | rfl | rfl | rfl | rfl | rfl | rfl | rfl <;> rfl
theorem digitSliceI (d : Nat) (h : d < 10) (w : World) : (Instr.slice 9 (.string ⟨#[48, 49, 50, 51, 52, 53, 54, 55, 56, 57]⟩) (some (.int .i64 (d : Int))) (some (.int .i64 ((d : Int) + 1))) none).run Tryz.prog w = .ok (.string ⟨[UInt8.ofNat (48 + d)].toArray⟩) w := by
 have : d = 0 ∨ d = 1 ∨ d = 2 ∨ d = 3 ∨ d = 4 ∨ d = 5 ∨ d = 6 ∨ d = 7 ∨ d = 8 ∨ d = 9 := by omega
 rcases this with rfl | rfl | rfl | rfl | rfl | rfl | rfl | rfl | rfl | rfl <;> rfl
def moreDigits (m : Nat) (t : List UInt8) : List UInt8 := (if m = 0 ∧ t ≠ [] then [] else Lib.decDigits m) ++ t
theorem moreDigits_step (m : Nat) (t : List UInt8) (h : t = [] ∨ 0 < m) : moreDigits (m / 10) (UInt8.ofNat (48 + m % 10) :: t) = moreDigits m t := by
 unfold moreDigits; rw [if_neg (c := m = 0 ∧ t ≠ []) (by rintro ⟨h1, h2⟩; rcases h with h | h; exact h2 h; omega), decDigits_step m]; by_cases h1 : m / 10 = 0
 · rw [if_pos ⟨h1, by simp⟩, if_pos h1]; simp
 · rw [if_neg (fun h => h1 h.1), if_neg h1]; simp
theorem rDigits_calls (n : Nat) (hn : n < 18446744073709551616) (w : World) :
 Calls Tryz.prog 157 #[.int .u64 n] w fun e w' => e = .returned (.string ⟨(Lib.decDigits n).toArray⟩) ∧ w = w' := by
 obtain ⟨R, hR⟩ : ∃ R, Lib.decDigits n = R := ⟨_, rfl⟩
 have HRL : RowKit.Hid (R.length ≤ 20) := Lib.hid (by rw [← hR]; exact decDigits_short (by omega)); rw [hR]; have HR := Lib.hid hR; clear hR; go_enter Tryz.func157, Tryz.ntmps157
 go_wp2_with fail; go_loop [0, 3] (fun x s => ∃ (m : Nat) (t : List UInt8), x = .int .u64 m ∧ s = .string ⟨t.toArray⟩ ∧ m ≤ n ∧ moreDigits m t = R) (fun x s => (intOf x).toNat + (match s with | .string b => if b.size = 0 then 1 else 0 | _ => 0))
 case atStart => exact ⟨n, [], rfl, rfl, Nat.le_refl _, by rw [← HR.out]; simp [moreDigits]⟩
 case round =>
  obtain ⟨m, t, rfl, rfl, hm, ht⟩ := hrel; have HT := Lib.hid ht; have hl : t.length ≤ 20 := by
   have h := congrArg List.length ht; unfold moreDigits at h; rw [List.length_append] at h; have := HRL.out; omega
  clear ht; have hdl := Nat.mod_lt m (show 10 > 0 by decide); obtain ⟨d, hd⟩ : ∃ d : Nat, m % 10 = d := ⟨_, rfl⟩
  obtain ⟨q, hq⟩ : ∃ q : Nat, m / 10 = q := ⟨_, rfl⟩
  have hdi : (m : Int) % 10 = (d : Int) := by omega
  have hqi : (m : Int) / 10 = (q : Int) := by omega
  rw [hd] at hdl; have hx := digitSlice d hdl w; have hcase : t = [] ∨ (t.isEmpty = false ∧ 0 < m) ∨ (t.isEmpty = false ∧ m = 0) := by
   cases t with
   | nil => exact .inl rfl
   | cons c r => exact .inr (by simp; omega)
  rcases hcase with rfl | ⟨he, hpos⟩ | ⟨he, rfl⟩
  · have HN := Lib.hid ((moreDigits_step m [] (.inl rfl)).trans HT.out); rw [hd, hq] at HN; have HQ := Lib.hid hq; clear hd hq; go_wp2; go_round
    case rel => exact ⟨q, [UInt8.ofNat (48 + d)], rfl, by simp, by have := HQ.out; omega, HN.out⟩
    case measure => have := HQ.out; simp [intOf, ByteArray.size]; (try split) <;> omega
  · have HN := Lib.hid ((moreDigits_step m t (.inr hpos)).trans HT.out); rw [hd, hq] at HN; have HQ := Lib.hid hq; have hp : (0 : Int) < m := by omega
    clear hd hq; go_wp2; go_round
    case rel => exact ⟨q, UInt8.ofNat (48 + d) :: t, rfl, by simp, by have := HQ.out; omega, HN.out⟩
    case measure => have := HQ.out; simp [intOf, ByteArray.size]; (try split) <;> omega
  · have e : t = R := by
     have := HT.out; unfold moreDigits at this; rw [if_pos ⟨rfl, by intro e; rw [e] at he; cases he⟩] at this; simpa using this
    clear hd hq hdi hqi hx hdl; subst e; go_wp2; go_ret; exact ⟨rfl, rfl⟩
theorem rPrint_calls (n : Nat) (hn : n ≤ 9223372036854775807) (w : World) :
 Calls Tryz.prog 63 #[.int .i64 n] w fun e w' => e = .returned (.string ⟨(Lib.itoa n).toArray⟩) ∧ w = w' := by
 have h0 : (0 : Int) ≤ n := by omega
 rw [Lib.itoa_nonneg]; go_enter Tryz.func63, Tryz.ntmps63
 go_wp2_with fail; refine (rSize_calls n hn _).mono ?_; rintro e w' ⟨rfl, rfl⟩; go_wp2_with fail; refine (rDigits_calls n (by omega) _).mono ?_; rintro e w' ⟨rfl, rfl⟩; go_wp2; go_ret; exact ⟨rfl, rfl⟩
theorem trim_snoc (s : List UInt8) : trimNoughts (s ++ [48]) = trimNoughts s := by unfold trimNoughts; simp
theorem trim_stop {s : List UInt8} {c : UInt8} (h : c ≠ 48) : trimNoughts (s ++ [c]) = s ++ [c] := by
 unfold trimNoughts; rw [List.reverse_append]; simp [h]
theorem trim_price (q : Nat) (h : q < 10000) : trimNoughts ((Lib.decDigits (10000 + q)).drop 1) = [] ↔ q = 0 := by
 have e : (Lib.decDigits (10000 + q)).drop 1 = inDigits q 4 := by rw [← part_digits q h, Lib.itoa_nonneg]
 rw [e]; constructor
 · intro h0; obtain ⟨k, hk⟩ := trimNoughts_spec (inDigits q 4); rw [h0, List.nil_append] at hk; have h1 := natOf_inDigits q 4; rw [hk] at h1; have h2 := natOf_noughts [] k; rw [List.nil_append] at h2; rw [h2] at h1; simp [natOf] at h1
   omega
 · rintro rfl; decide
theorem rPrice_calls (n : Nat) (hn : n ≤ 1000000000) (w : World) :
 Calls Tryz.prog 215 #[.int .i64 n] w fun e w' => e = .returned (.string ⟨(priceOf n).toArray⟩) ∧ w = w' := by
 rw [priceText]; have h0 : (0 : Int) ≤ n := by omega
 obtain ⟨q, hq⟩ : ∃ q : Nat, n % 10000 = q := ⟨_, rfl⟩
 obtain ⟨z, hz⟩ : ∃ z : Nat, n / 10000 = z := ⟨_, rfl⟩
 have hqi : (n : Int) % 10000 = (q : Int) := by omega
 have hzi : (n : Int) / 10000 = (z : Int) := by omega
 rw [hq, hz]; have hql : q < 10000 := by omega
 have hzl : z ≤ 100000 := by omega
 have HT := Lib.hid (trim_price q hql); have HD1 := Lib.hid (fun w => rDigits_calls z (by omega) w); have HD2 := Lib.hid (fun w => rDigits_calls (10000 + q) (by omega) w); obtain ⟨D, hD⟩ : ∃ D, Lib.decDigits z = D := ⟨_, rfl⟩
 obtain ⟨P, hP⟩ : ∃ P, Lib.decDigits (10000 + q) = P := ⟨_, rfl⟩
 have hPl : 1 ≤ P.length ∧ P.length ≤ 20 := ⟨by rw [← hP, Lib.decDigits_length]; exact Lib.nDigits_pos _, by rw [← hP]; exact decDigits_short (by omega)⟩
 have hcast : ((10000 + q : Nat) : Int) = 10000 + (q : Int) := by omega
 have hDl : D.length ≤ 20 := by rw [← hD]; exact decDigits_short (by omega)
 rw [hD] at HD1 ⊢; rw [hP] at HT HD2 ⊢; rw [hcast] at HD2; have HPD := Lib.hid (ba_drop1 P); obtain ⟨T, hT⟩ : ∃ T, trimNoughts (P.drop 1) = T := ⟨_, rfl⟩
 rw [hT] at HT ⊢; have HTT := Lib.hid hT; have HDL : RowKit.Hid ((P.drop 1).length ≤ 20) := Lib.hid (by simp; omega); obtain ⟨R, hR⟩ : ∃ R, D ++ (if q = 0 then [] else 46 :: T) = R := ⟨_, rfl⟩
 rw [hR]; have HR := Lib.hid hR; clear hq hz hD hP hcast hT hR hql; go_enter Tryz.func215, Tryz.ntmps215
 go_wp2_with fail; refine (rSize_calls n (by omega) _).mono ?_; rintro e w' ⟨rfl, rfl⟩; go_wp2_with fail; refine (HD1.out _).mono ?_; rintro e w' ⟨rfl, rfl⟩; go_wp2_with fail; refine (HD2.out _).mono ?_; rintro e w' ⟨rfl, rfl⟩; go_wp2_with fail; rw [HPD.out]; clear hqi hzi hPl; go_loop [5] (fun x => ∃ s : List UInt8, x = .string ⟨s.toArray⟩ ∧ trimNoughts s = T ∧ s.length ≤ 20) (fun x => match x with | .string b => b.size | _ => 0)
 case atStart => exact ⟨P.drop 1, rfl, HTT.out, HDL.out⟩
 case round =>
  obtain ⟨s, rfl, hs, hl⟩ := hrel; have HS := Lib.hid hs; clear hs; rcases List.eq_nil_or_concat s with rfl | ⟨t, c, rfl⟩
  · have e : R = D := by rw [← HR.out, if_pos (HT.out.1 (by rw [← HS.out]; rfl))]; simp
    subst e; go_wp2; go_ret; exact ⟨rfl, rfl⟩
  · rw [List.concat_eq_append] at *; have he : (t ++ [c]).isEmpty = false := by cases t <;> rfl
    have hln : (t ++ [c]).length = t.length + 1 := by simp
    have hg : (t ++ [c])[t.length]'(by simp) = c := by simp
    have HLN := Lib.hid hln; have hlt : t.length ≤ 19 := by omega
    by_cases hc : c = 48
    · subst hc; have HS2 := Lib.hid ((trim_snoc t).symm.trans HS.out); have hx : (ByteArray.mk (t ++ [48]).toArray).extract 0 t.length = ByteArray.mk t.toArray := by
       apply ByteArray.ext
       simp [ByteArray.data_extract]
      go_wp2; go_round
      case rel => exact ⟨t, by simp, HS2.out, by omega⟩
      case measure => simp [ByteArray.size]
    · have hcs : trimNoughts (t ++ [c]) = t ++ [c] := trim_stop hc; have hT : T = t ++ [c] := by rw [← HS.out, hcs]
      have hq0 : ¬ q = 0 := fun h0 => by
       have := HT.out.2 h0; rw [hT] at this; cases t <;> cases this
      have hRR : R = D ++ 46 :: (t ++ [c]) := by rw [← HR.out, if_neg hq0, hT]
      subst hRR; have hc2 : ((c.toNat : Int) == 48) = false := by
       rw [beq_eq_false_iff_ne]; intro h; exact hc (UInt8.toNat_inj.1 (by show c.toNat = 48; omega))
      clear hT hq0 hcs; go_wp2; go_ret; refine ⟨?_, rfl⟩; simp
theorem rSum_calls (s : List UInt8) (A : Option Addr) (cap B c2 : Nat) (w : World) (hs : s.length ≤ 140737488355328)
 (hB : w.cell? ⟨B, 0, none⟩ = some (.slice A s.length cap)) (hb : Reads w A s) :
 Calls Tryz.prog 65 #[.slice (some ⟨B, 0, none⟩) 1 c2] w fun e w' => e = .returned (.int .i64 (sumOf s)) ∧ w = w' := by
 obtain ⟨R, hR⟩ : ∃ R : Nat, sumOf s = R := ⟨_, rfl⟩
 have hlt : R < 256 := by rw [← hR, sumOf_eq]; omega
 rw [hR]; have HR := Lib.hid hR; have HB := Lib.hid hb; clear hR hb; go_enter Tryz.func65, Tryz.ntmps65
 go_wp2; go_loop [3, 4] (fun n i => (n = .int .i64 0 ∧ i = .int .i64 0) ∨ (n = .int .i64 (R : Int) ∧ i = .int .i64 1)) (fun _ i => 1 - (intOf i).toNat)
 case atStart => exact .inl ⟨rfl, rfl⟩
 case round =>
  rcases hrel with ⟨rfl, rfl⟩ | ⟨rfl, rfl⟩
  · go_wp2_with fail; go_loop [3, 5] (fun n i => ∃ k : Nat, k ≤ s.length ∧ i = .int .i64 k ∧ n = .int .i64 ((addUp 0 (s.take k) % 256 : Nat) : Int)) (fun _ i => s.length - (intOf i).toNat)
    case atStart => exact ⟨0, by omega, rfl, rfl⟩
    case round =>
     obtain ⟨k, hk, rfl, rfl⟩ := hrel; by_cases hlt : k < s.length
     · obtain ⟨ad, rfl, hc⟩ := HB.out.at hlt; have HN := Lib.hid (addUp_succ hlt); generalize s[k] = c at *; have hcl : (c.toNat : Int) < 256 := by have := c.toNat_lt; omega
       generalize addUp 0 (s.take k) = m at *; obtain ⟨a, ha⟩ : ∃ a : Nat, m % 256 = a := ⟨_, rfl⟩
       have hal : a < 256 := by omega
       have HA := Lib.hid ha; rw [ha]; clear ha; go_wp2; go_round
       case rel => exact ⟨k + 1, by omega, by go_num, by rw [HN.out]; refine congrArg _ ?_; have := HA.out; omega⟩
       case measure => simp [intOf]; omega
     · obtain rfl : k = s.length := by omega
       rw [List.take_length, ← sumOf_eq, HR.out]; go_wp2; go_round
       case rel => exact .inr ⟨rfl, rfl⟩
       case measure => simp [intOf]
  · go_wp2; go_ret; exact ⟨rfl, rfl⟩
end
end Go.Proofs.YtdmjinlgdkgoiaaGreatDoor
