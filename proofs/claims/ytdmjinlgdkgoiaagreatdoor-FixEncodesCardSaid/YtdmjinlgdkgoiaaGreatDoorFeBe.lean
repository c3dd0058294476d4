/- Of the layer fix: RefJoin, RefJoin2. -/
import Derived.Test.YtdmjinlgdkgoiaaGreatDoorFeAb
import Derived.Test.YtdmjinlgdkgoiaaGreatDoorFeAn
import Derived.Test.YtdmjinlgdkgoiaaGreatDoorFeAx
import Derived.Deep.QuietTactic
import Derived.BigQuiet
set_option linter.unusedVariables false
set_option linter.unusedSimpArgs false
set_option maxRecDepth 100000
namespace Go.Proofs.YtdmjinlgdkgoiaaGreatDoor
section
open Go Go.RowKit
set_option maxHeartbeats 1600000
attribute [local go_sem] ba_get
theorem isTag_calls (n : Int) (w : World) : Calls Tryz.prog 61 #[.int .i64 n] w fun e w' => e = .returned (.bool (!tagBad n)) ∧ w = w' := by
 have hcase : tagBad n = true ∧ n < 1 ∨ tagBad n = true ∧ 1 ≤ n ∧ 9999 < n ∨ tagBad n = true ∧ n = 8 ∨ tagBad n = true ∧ n = 9 ∨ tagBad n = true ∧ n = 10 ∨ tagBad n = false ∧ 1 ≤ n ∧ n ≤ 9999 ∧ (n != 8) = true ∧ (n != 9) = true ∧ (n != 10) = true := by
  unfold tagBad; simp only [Bool.or_eq_true, Bool.and_eq_true, decide_eq_true_eq, Bool.or_eq_false_iff, Bool.and_eq_false_iff, decide_eq_false_iff_not, bne_iff_ne]; omega
 rcases hcase with ⟨e, h1⟩ | ⟨e, h1, h2⟩ | ⟨e, rfl⟩ | ⟨e, rfl⟩ | ⟨e, rfl⟩ | ⟨e, h1, h2, h3, h4, h5⟩
 all_goals
  rw [e]; clear e; go_enter Tryz.func61, Tryz.ntmps61
  go_wp2; go_ret; exact ⟨rfl, rfl⟩
theorem isValue_calls (s : List UInt8) (w : World) (hs : s.length ≤ 140737488355328) :
 Calls Tryz.prog 62 #[.string ⟨s.toArray⟩] w fun e w' => e = .returned (.bool (valued s)) ∧ w = w' := by
 go_enter Tryz.func62, Tryz.ntmps62
 go_wp2; go_loop [3] (fun i => ∃ k : Nat, k ≤ s.length ∧ i = .int .i64 k ∧ (s.take k).all shown = true) (fun i => s.length - (intOf i).toNat)
 case atStart => exact ⟨0, Nat.zero_le _, rfl, rfl⟩
 case round =>
  obtain ⟨k, hk, rfl, hall⟩ := hrel; have HA := Lib.hid hall; clear hall; by_cases hlt : k < s.length
  · by_cases hc : shown s[k] = true
    · have HN := Lib.hid (all_take_succ' hlt HA.out hc); rw [shown_iff] at hc; obtain ⟨h1, h2⟩ := hc; generalize hg : s[k] = c at *; have HG := Lib.hid hg; go_wp2; go_round
      case rel => exact ⟨k + 1, by omega, by go_num, HN.out⟩
      case measure => simp [intOf]; omega
    · have e : valued s = false := by simp [valued, all_false hlt hc]
      have E := Lib.hid e; clear e; have hn := not_shown hc; clear hc; generalize hg : s[k] = c at *; rcases hn with h1 | ⟨h1, h2⟩
      all_goals
       go_wp2; go_ret; exact ⟨by rw [E.out]; rfl, rfl⟩
  · obtain rfl : k = s.length := by omega
    have e : valued s = !s.isEmpty := by
     have := HA.out; rw [List.take_of_length_le (by omega)] at this; simp [valued, this]
    have E := Lib.hid e; clear e; go_wp2; go_ret; refine ⟨?_, rfl⟩; rw [E.out]; cases s <;> simp
theorem three_calls (n : Nat) (w : World) (hn : n < 1000) : Calls Tryz.prog 64 #[.int .i64 n] w fun e w' => e = .returned (.string ⟨(inDigits n 3).toArray⟩) ∧ Ext w w' := by
 obtain ⟨a, ha⟩ : ∃ a : Nat, n / 100 = a := ⟨_, rfl⟩
 obtain ⟨b, hb⟩ : ∃ b : Nat, n / 10 % 10 = b := ⟨_, rfl⟩
 obtain ⟨c, hc⟩ : ∃ c : Nat, n % 10 = c := ⟨_, rfl⟩
 have ha2 : (n : Int) / 100 = (a : Int) := by omega
 have hb2 : (n : Int) / 10 % 10 = (b : Int) := by omega
 have hc2 : (n : Int) % 10 = (c : Int) := by omega
 have la : a < 10 := by omega
 have lb : b < 10 := by omega
 have lc : c < 10 := by omega
 have h0 : (0 : Int) ≤ n := by omega
 have e : inDigits n 3 = [UInt8.ofNat (48 + a), UInt8.ofNat (48 + b), UInt8.ofNat (48 + c)] := by
  show [] ++ [UInt8.ofNat (48 + n / 10 / 10 % 10)] ++ [UInt8.ofNat (48 + n / 10 % 10)] ++ [UInt8.ofNat (48 + n % 10)] = _
  rw [hb, hc, show n / 10 / 10 % 10 = a by omega]; rfl
 rw [e]; have ta : ((UInt8.ofNat (48 + a)).toNat : Int) = 48 + (a : Int) := by rw [toNat_ofNat _ (by omega)]; omega
 have tb : ((UInt8.ofNat (48 + b)).toNat : Int) = 48 + (b : Int) := by rw [toNat_ofNat _ (by omega)]; omega
 have tc : ((UInt8.ofNat (48 + c)).toNat : Int) = 48 + (c : Int) := by rw [toNat_ofNat _ (by omega)]; omega
 obtain ⟨x, hx⟩ : ∃ x, UInt8.ofNat (48 + a) = x := ⟨_, rfl⟩
 obtain ⟨y, hy⟩ : ∃ x, UInt8.ofNat (48 + b) = x := ⟨_, rfl⟩
 obtain ⟨z, hz⟩ : ∃ x, UInt8.ofNat (48 + c) = x := ⟨_, rfl⟩
 rw [hx] at ta ⊢; rw [hy] at tb ⊢; rw [hz] at tc ⊢; have hR : Reads (w.alloc (.cells #[.int .u8 (48 + (a : Int)), .int .u8 (48 + (b : Int)), .int .u8 (48 + (c : Int))] 5)) (some ⟨w.heap.size, 0, none⟩) [x, y, z] := Reads.of_block (fun i hi => by
  have h3 : i = 0 ∨ i = 1 ∨ i = 2 := by simp at hi; omega
  rw [cell_of_row _ _ _ _ _ (0, 0) (heap_alloc_new _ _)]; rcases h3 with rfl | rfl | rfl
  · simp [ta]
  · simp [tb]
  · simp [tc])
 have hconv : (convert 25 9 (.slice (some ⟨w.heap.size, 0, none⟩) 3 3)).run Tryz.prog (w.alloc (.cells #[.int .u8 (48 + (a : Int)), .int .u8 (48 + (b : Int)), .int .u8 (48 + (c : Int))] 5)) = .ok (.string ⟨[x, y, z].toArray⟩) (w.alloc (.cells #[.int .u8 (48 + (a : Int)), .int .u8 (48 + (b : Int)), .int .u8 (48 + (c : Int))] 5)) := conv_reads _ _ _ 3 hR; clear e ha hb hc ta tb tc hx hy hz hR; go_enter Tryz.func64, Tryz.ntmps64
 go_wp2; go_ret; exact ⟨rfl, (Ext.refl w).alloc _⟩
end
section
open Go Go.RowKit
set_option maxHeartbeats 1600000
attribute [local go_sem] ba_get
theorem ba_snoc2 (s : List UInt8) (c : UInt8) : ByteArray.mk s.toArray ++ ByteArray.mk #[c] = ByteArray.mk (s ++ [c]).toArray := ba_append s [c]
theorem ba_ten (s : List UInt8) : ByteArray.mk s.toArray ++ ByteArray.mk #[49, 48, 61] = ByteArray.mk (s ++ [49, 48, 61]).toArray := ba_append s [49, 48, 61]
attribute [local go_sem ↓] convRule headRule ba_ten
attribute [local go_sem] ba_append ba_snoc2
theorem rJoin_calls (l : List Fld) (b cap : Nat) (w : World) (hl : ∀ f ∈ l, FldOk f) (hn : l.length ≤ 1099511627776) (hF : FieldsAt w b l) :
 Calls Tryz.prog 25 #[.slice (some ⟨b, 0, none⟩) l.length cap] w fun e w' => Joined w e w' (join l) ∧ Ext w w' := by
 obtain ⟨R, hR⟩ : ∃ R, join l = R := ⟨_, rfl⟩
 rw [hR]; have HR := Lib.hid hR; have HL := Lib.hid hl; have HF := Lib.hid hF; clear hR hl hF; go_enter Tryz.func25, Tryz.ntmps25
 go_wp2_with fail; go_loop [4] (fun i => ∃ k : Nat, k ≤ l.length ∧ i = .int .i64 k ∧ (l.take k).any (fun f => tagBad f.1) = false) (fun i => l.length - (intOf i).toNat)
 case atStart => exact ⟨0, by omega, rfl, rfl⟩
 case round =>
  obtain ⟨k, hk, rfl, hh⟩ := hrel; have HH := Lib.hid hh; clear hh; by_cases hlt : k < l.length
  · obtain ⟨q0, q1⟩ := HF.out k hlt; obtain ⟨bad, hbad⟩ : ∃ x, tagBad (l[k]).1 = x := ⟨_, rfl⟩
    have HBAD := Lib.hid hbad; have HT := Lib.hid (isTag_calls (l[k]).1 w); rw [hbad] at HT; clear hbad; cases bad with
    | true =>
     have e : R = ([], 41) := by rw [← HR.out]; unfold join; rw [if_pos (any_true (p := fun (f : Fld) => tagBad f.1) hlt HBAD.out)]
     subst e; generalize (l[k]).1 = t at *; generalize (l[k]).2 = v at *; go_wp2_with fail; refine HT.out.mono ?_; rintro e w' ⟨rfl, rfl⟩; go_wp2; go_ret2; exact ⟨⟨_, rfl, by simp⟩, Ext.refl _⟩
    | false =>
     have HN := Lib.hid (any_take_succ (p := fun (f : Fld) => tagBad f.1) hlt HH.out HBAD.out); generalize (l[k]).1 = t at *; generalize (l[k]).2 = v at *; go_wp2_with fail; refine HT.out.mono ?_; rintro e w' ⟨rfl, rfl⟩; go_wp2; go_round
     case rel => exact ⟨k + 1, by omega, by go_num, HN.out⟩
     case measure => simp [intOf]; omega
  · obtain rfl : k = l.length := by omega
    have hany : l.any (fun f => tagBad f.1) = false := by
     have := HH.out
     rwa [List.take_length] at this
    have HA := Lib.hid hany; clear hany HH; go_wp2_with fail; go_loopw [6, 7] (fun s i wr => ∃ k : Nat, k ≤ l.length ∧ i = .int .i64 k ∧ s = .string ⟨(bodyOf [] (l.take k)).toArray⟩ ∧ Ext w wr ∧ (l.take k).all (fun f => valued f.2) = true ∧ (bodyOf [] (l.take k)).length ≤ 1099511628900) (fun _ i _ => l.length - (intOf i).toNat)
    case atStart => exact ⟨0, by omega, rfl, rfl, Ext.refl _, rfl, by simp [bodyOf]⟩
    case round =>
     obtain ⟨k, hk, rfl, rfl, hX, hall, hlen⟩ := hrel; have HX := Lib.hid hX; have HALL := Lib.hid hall; clear hX hall; by_cases hlt : k < l.length
     · obtain ⟨q0, q1⟩ := (HF.out.ext HX.out) k hlt; have hbl := lt_of_cell q0; obtain ⟨htok, hvok⟩ := HL.out l[k] (by simp); obtain ⟨bv, hbv⟩ : ∃ x, valued (l[k]).2 = x := ⟨_, rfl⟩
       have HBV := Lib.hid hbv; have HV := Lib.hid (isValue_calls (l[k]).2 wr (by omega)); rw [hbv] at HV; have hgood : tagBad (l[k]).1 = false := by
        have := List.any_eq_false.1 HA.out l[k] (by simp); simpa using this
       obtain ⟨g1, g2, _⟩ := tag_good hgood; have HTAKE := Lib.hid (bodyOf_take hlt []); obtain ⟨tn, htn⟩ : ∃ n : Nat, (l[k]).1 = (n : Int) := ⟨((l[k]).1).toNat, by omega⟩
       have HPR := Lib.hid (fun w => rPrint_calls tn (by omega) w); have hit : (Lib.itoa (tn : Int)).length ≤ 21 := Lib.itoa_length_le _ (by omega) (by omega); unfold piece at HTAKE; rw [htn] at HTAKE q0 g1 g2; clear hbv hgood htok; cases bv with
       | false =>
        have e : R = ([], 42) := by
         rw [← HR.out]; unfold join; rw [if_neg (by rw [HA.out]; simp), if_pos (by rw [all_false' (p := fun (f : Fld) => valued f.2) hlt HBV.out]; rfl)]
        subst e; generalize (l[k]).2 = v at *; go_wp2_with fail; refine HV.out.mono ?_; rintro e w' ⟨rfl, rfl⟩; go_wp2; go_ret2; exact ⟨⟨_, rfl, by simp⟩, HX.out⟩
       | true =>
        have HALL2 := Lib.hid (all_take_succ' (p := fun (f : Fld) => valued f.2) hlt HALL.out HBV.out); generalize (l[k]).2 = v at *; generalize bodyOf [] (List.take k l) = bs at *; generalize hbsp : bodyOf [] (List.take (k + 1) l) = bs' at *; have HBSP := Lib.hid hbsp; clear hbsp htn; generalize hitd : Lib.itoa (tn : Int) = it at *; have HITD := Lib.hid hitd; clear hitd; by_cases hle : bs.length ≤ 1024
        · have hbs : bs' = bs ++ it ++ [61] ++ v ++ [1] := by rw [HTAKE.out, if_pos hle]; simp
          have HBS := Lib.hid hbs; have hle2 : (bs.length : Int) ≤ 1024 := by omega
          clear hbs; go_wp2_with fail; refine HV.out.mono ?_; rintro e w' ⟨rfl, rfl⟩; go_wp2_with fail; go_quiet (exact Calls.quiet_of_same ((HPR.out _).mono fun e w' h => ⟨h.1, h.2.symm⟩))
          go_wp2; go_roundw
          case rel => exact ⟨k + 1, by omega, by go_num, by rw [HBSP.out, HBS.out]; first | rfl | simp, HX.out.trans (Joins.below_draws _ _ _), HALL2.out, by rw [HBSP.out, HBS.out]; simp; omega⟩
          case measure => simp [intOf]; omega
        · have hbs : bs' = bs := by rw [HTAKE.out, if_neg hle]
          have HBS := Lib.hid hbs; have hle2 : ¬ (bs.length : Int) ≤ 1024 := by omega
          clear hbs; go_wp2_with fail; refine HV.out.mono ?_; rintro e w' ⟨rfl, rfl⟩; go_wp2; go_roundw
          case rel => exact ⟨k + 1, by omega, by go_num, by rw [HBSP.out, HBS.out], HX.out, HALL2.out, by rw [HBSP.out, HBS.out]; exact hlen⟩
          case measure => simp [intOf]; omega
     · obtain rfl : k = l.length := by omega
       have hall : l.all (fun f => valued f.2) = true := by
        have := HALL.out
        rwa [List.take_length] at this
       rw [List.take_length] at hlen ⊢; obtain ⟨body, hbody⟩ : ∃ x, bodyOf [] l = x := ⟨_, rfl⟩
       rw [hbody] at hlen ⊢; have hjoin : R = if 1024 < (framed body).length then ([], 43) else (framed body, 0) := by
        rw [← HR.out]; unfold join; rw [if_neg (by rw [HA.out]; simp), if_neg (by rw [hall]; simp), hbody]
       have hfl := framed_len body; have hol := outOf_len body; have hfs := framed_split body; clear hall hbody HALL; by_cases hb : 1024 < body.length
       · have e : R = ([], 43) := by rw [hjoin, if_pos (by omega)]
         subst e; have hb2 : (1024 : Int) < (body.length : Int) := by omega
         clear hjoin hfl hol hfs; go_wp2; go_ret2; exact ⟨⟨_, rfl, by simp⟩, HX.out⟩
       · have hb2 : ¬ (1024 : Int) < (body.length : Int) := by omega
         have HPR := Lib.hid (fun w => rPrint_calls body.length (by omega) w); have hit : (Lib.itoa (body.length : Int)).length ≤ 21 := Lib.itoa_length_le _ (by omega) (by omega); obtain ⟨out, hout⟩ : ∃ x, outOf body = x := ⟨_, rfl⟩
         rw [hout] at hfs hfl hol; have hol2 : out.length ≤ 1100 := by omega
         unfold outOf at hout; obtain ⟨fr, hfr⟩ : ∃ x, framed body = x := ⟨_, rfl⟩
         rw [hfr] at hjoin hfl hfs; have hsm : sumOf out < 256 := sumOf_lt out; obtain ⟨sm, hsmd⟩ : ∃ x, sumOf out = x := ⟨_, rfl⟩
         have HTH := Lib.hid (fun w => three_calls sm w (by omega)); have hin3 : (inDigits sm 3).length ≤ 3 := by rw [inDigits_length]; omega
         rw [hsmd] at hfs hsm; have HSM := Lib.hid hsmd; have HFS := Lib.hid hfs; have HJOIN := Lib.hid hjoin; have HFL := Lib.hid hfl; obtain ⟨it, hitd⟩ : ∃ x, Lib.itoa (body.length : Int) = x := ⟨_, rfl⟩
         rw [hitd] at HPR hit hout; have hhl : headOf.length ≤ 12 := by decide
         have hout2 : headOf ++ (it ++ 1 :: body) = out := by rw [← hout]; simp
         have HOUT := Lib.hid hout; clear hsmd hfs hjoin hfl hol hfr hitd hout; go_wp2_with fail; refine (HPR.out _).mono ?_; rintro e w' ⟨rfl, rfl⟩; go_wp2_with fail; have HO := Lib.hid (own_convert wr 5 out (by omega)); have hEb : Ext wr (Lib.bytesWorld wr 5 ⟨out.toArray⟩) := Joins.below_bytesWorld _ _ _ _ (Nat.le_refl _); have HEB := Lib.hid (hEb.alloc (.cells #[.slice (some ⟨wr.heap.size, 0, none⟩) out.length (grownCap wr out.length 0 5)] 25)); have hs := rSum_calls out (some ⟨wr.heap.size, 0, none⟩) (grownCap wr out.length 0 5) (Lib.bytesWorld wr 5 ⟨out.toArray⟩).heap.size 1 ((Lib.bytesWorld wr 5 ⟨out.toArray⟩).alloc (.cells #[.slice (some ⟨wr.heap.size, 0, none⟩) out.length (grownCap wr out.length 0 5)] 25)) (by omega) (cell_of_row _ _ _ _ _ (0, 0) (heap_alloc_new _ _)) ((Reads.of_own HO.out).ext ((Ext.refl _).alloc _)); rw [HSM.out] at hs; clear hEb; refine hs.mono ?_; rintro e w' ⟨rfl, rfl⟩; clear hs; go_wp2_with fail; refine (HTH.out _).mono ?_; rintro e w5 ⟨rfl, hE5⟩; have HE5 := Lib.hid ((HX.out.trans HEB.out).trans hE5); clear hE5; have hfr2 : out ++ (49 :: 48 :: 61 :: (inDigits sm 3 ++ [1])) = fr := by rw [HFS.out]; simp
         have hfr3 : out ++ [49, 48, 61] ++ inDigits sm 3 ++ [1] = fr := by rw [HFS.out]; simp
         generalize inDigits sm 3 = d3 at *; have hfrl : fr.length ≤ 1200 := by have := HFL.out; omega
         by_cases hbig : 1024 < fr.length
         · have e : R = ([], 43) := by rw [HJOIN.out, if_pos hbig]
           subst e; have hbig2 : (1024 : Int) < (fr.length : Int) := by omega
           go_wp2; go_ret2; exact ⟨⟨_, rfl, by simp⟩, HE5.out⟩
         · have e : R = (fr, 0) := by rw [HJOIN.out, if_neg hbig]
           subst e; have hbig2 : ¬ (1024 : Int) < (fr.length : Int) := by omega
           have HOF := Lib.hid (own_convert w5 5 fr (by omega)); have HEF : RowKit.Hid (Ext w5 (Lib.bytesWorld w5 5 ⟨fr.toArray⟩)) := Lib.hid (Joins.below_bytesWorld _ _ _ _ (Nat.le_refl _)); go_wp2; go_ret2; exact ⟨⟨_, rfl, by simpa using HOF.out.more HE5.out.size⟩, HE5.out.trans HEF.out⟩
end
end Go.Proofs.YtdmjinlgdkgoiaaGreatDoor
