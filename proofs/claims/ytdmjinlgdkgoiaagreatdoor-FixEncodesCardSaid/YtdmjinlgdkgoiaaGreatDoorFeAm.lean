/- Of the layer fix: Differs2, Head. -/
import Derived.Test.YtdmjinlgdkgoiaaGreatDoorFeAl
import Derived.Laws.IdiomStrings
set_option linter.unusedVariables false
set_option linter.unusedSimpArgs false
set_option maxRecDepth 100000
namespace Go.Proofs.YtdmjinlgdkgoiaaGreatDoor
section
open Go Go.RowKit
set_option maxHeartbeats 1000000
attribute [local go_sem] ba_get
theorem differs_calls (s : List UInt8) (A : Option Addr) (cap k : Nat) (text : List UInt8) (w : World) (hs : s.length ≤ 140737488355328) (hk : k ≤ 140737488355328) (ht : text.length ≤ 1000) (hb : Reads w A s) :
 Calls Tryz.prog 148 #[.slice A s.length cap, .int .i64 k, .string ⟨text.toArray⟩] w fun e w' => e = .returned (.int .i64 (differs s k text)) ∧ Ext w w' := by
 have HB := Lib.hid hb; obtain ⟨R, hR⟩ : ∃ R, differs s k text = R := ⟨_, rfl⟩
 rw [hR]; have HR := Lib.hid hR; clear hb hR; go_enter Tryz.func148, Tryz.ntmps148
 go_wp2; go_loopw [11] (fun i wr => ∃ j : Nat, i = .int .i64 j ∧ j ≤ text.length ∧ Ext w wr ∧ differs s (k + j) (text.drop j) = R) (fun i _ => text.length - (intOf i).toNat)
 case atStart => exact ⟨0, rfl, by omega, Ext.refl _, HR.out⟩
 case round =>
  obtain ⟨j, rfl, hj, hX, hd⟩ := hrel; have HD := Lib.hid hd; clear hd; by_cases hlt : j < text.length
  · have hdrop : text.drop j = text[j] :: text.drop (j + 1) := List.drop_eq_getElem_cons hlt; have hstep : misses s[k + j]? text[j] = false → differs s (k + (j + 1)) (text.drop (j + 1)) = R := by
     intro h; have h1 := HD.out; rw [hdrop, differs_hit h] at h1; exact h1
    have hstop : misses s[k + j]? text[j] = true → R = ((min (k + j) s.length : Nat) : Int) := by
     intro h; have h1 := HD.out; rw [hdrop, differs_miss h] at h1; exact h1.symm
    have HSTEP := Lib.hid hstep; have HSTOP := Lib.hid hstop; clear hdrop hstep hstop; generalize hgt : text[j] = t at *; have HGT := Lib.hid hgt; by_cases hin : k + j < s.length
    · have hin' : ((k : Int) + (j : Int)) < (s.length : Int) := by omega
      obtain ⟨ad, rfl, hc⟩ := (HB.out.ext hX).at hin; have hsome : s[k + j]? = some s[k + j] := List.getElem?_eq_getElem hin; rw [hsome] at HSTEP HSTOP; clear hsome; generalize s[k + j] = c at *; have HC := Lib.hid hc; clear hc; by_cases h35 : t = 35
      · have ht35 : ((t.toNat : Int) == 35) = true := by subst h35; rfl
        cases hdg : isDigit c with
        | true =>
         have hres := HSTEP.out (by simp [misses, hdg, h35]); have HRES := Lib.hid hres; have HDG := Lib.hid hdg; clear hres hdg h35; go_wp2; refine wp_region_steps (fun _ => by kernel_rfl) [.is (.int .i64 ((k : Int) + (j : Int))), .is (.slice (some ad) s.length cap), .is (.int .i64 (s.length : Int)), .is (.bool false), .is (.bool false), .is (.string ⟨text.toArray⟩), .is (.int .i64 (j : Int)), .is (.int .u8 (t.toNat : Int)), .is (.bool false), .is (.bool false), .is (undef), .is (undef), .is (undef), .is (undef), .is (undef), .is (undef), .is (undef), .is (undef), .is (.bool false), .is (.bool false), .is (.bool false), .is (.string ⟨text.toArray⟩), .is (.int .i64 (j : Int)), .is (.int .u8 (t.toNat : Int)), .is (.bool true), .is (.bool true), .is (.slice (some ad) s.length cap), .is (.int .i64 ((k : Int) + (j : Int))), .is (.pointer (some (ad.add (k + j)))), .is (.int .u8 (c.toNat : Int)), .is (.bool true), .is (.bool false), .is (.bool false), .is (.bool false)] (by kernel_rfl) ?_ ?_
         · refine And.intro ?_ (And.intro ?_ (And.intro ?_ (And.intro ?_ (And.intro ?_ (And.intro ?_ (And.intro ?_ (And.intro ?_ (And.intro ?_ (And.intro ?_ (And.intro ?_ (And.intro ?_ (And.intro ?_ (And.intro ?_ (And.intro ?_ (And.intro ?_ (And.intro ?_ (And.intro ?_ (And.intro ?_ (And.intro ?_ (And.intro ?_ (And.intro ?_ (And.intro ?_ (And.intro ?_ (And.intro ?_ (And.intro ?_ (And.intro ?_ (And.intro ?_ (And.intro ?_ (And.intro ?_ (And.intro ?_ (And.intro ?_ (And.intro ?_ (And.intro ?_ (True.intro))))))))))))))))))))))))))))))))))
           · intro ρ w' hE hB hD; have e8 : ρ (.tmp 8) = _ := hB (.tmp 8) rfl; clear hB hD; refine .inl ⟨rfl, ?_⟩; unfold Gives; go_simp; first | done | exact xr0 | exact xr1
           · intro ρ w' hE hB hD; have e0 : ρ (.tmp 0) = _ := hB (.tmp 0) rfl; clear hB hD; refine .inl ⟨rfl, ?_⟩; unfold Gives; go_simp; first | done | exact xr0 | exact xr1
           · intro ρ w' hE hB hD; have e18 : ρ (.tmp 18) = .slice (some ad) s.length cap := hD 1 18 rfl rfl; clear hB hD; refine .inl ⟨rfl, ?_⟩; unfold Gives; go_simp; first | done | exact xr0 | exact xr1
           · intro ρ w' hE hB hD; have e17 : ρ (.tmp 17) = .int .i64 ((k : Int) + (j : Int)) := hD 0 17 rfl rfl; have e19 : ρ (.tmp 19) = .int .i64 (s.length : Int) := hD 2 19 rfl rfl; clear hB hD; refine .inl ⟨rfl, ?_⟩; unfold Gives; go_simp; exact ⟨Ext.refl _, congrArg Value.bool (by first | rfl | exact decide_eq_false (by omega) | exact decide_eq_true (by omega) | (simp only [bne, ht35]; done) | (simp only [bne, ht35]; rfl) | (simp only [bne, hne]; rfl) | simp [ht35])⟩
           · intro ρ w' hE hB hD; have e20 : ρ (.tmp 20) = .bool false := hD 3 20 rfl rfl; clear hB hD; refine .inl ⟨rfl, ?_⟩; unfold Gives; go_simp; first | done | exact xr0 | exact xr1
           · intro ρ w' hE hB hD; have e2 : ρ (.tmp 2) = _ := hB (.tmp 2) rfl; have e21 : ρ (.tmp 21) = .bool false := hD 4 21 rfl rfl; clear hB hD; refine .inl ⟨by simp [wantedBy, e21], ?_⟩; unfold Gives; go_simp; first | done | exact xr0 | exact xr1
           · intro ρ w' hE hB hD; have e7 : ρ (.tmp 7) = _ := hB (.tmp 7) rfl; have e21 : ρ (.tmp 21) = .bool false := hD 4 21 rfl rfl; clear hB hD; refine .inl ⟨by simp [wantedBy, e21], ?_⟩; unfold Gives; go_simp; first | done | exact xr0 | exact xr1
           · intro ρ w' hE hB hD; have e21 : ρ (.tmp 21) = .bool false := hD 4 21 rfl rfl; have e22 : ρ (.tmp 22) = .string ⟨text.toArray⟩ := hD 5 22 rfl rfl; have e23 : ρ (.tmp 23) = .int .i64 (j : Int) := hD 6 23 rfl rfl; clear hB hD; refine .inl ⟨by simp [wantedBy, e21], ?_⟩; unfold Gives; go_simp; first | done | exact xr0 | exact xr1
           · intro ρ w' hE hB hD; have ec := ctK hB
             have e21 : ρ (.tmp 21) = .bool false := hD 4 21 rfl rfl; have e24 : ρ (.tmp 24) = .int .u8 (t.toNat : Int) := hD 7 24 rfl rfl; clear hB hD; refine .inl ⟨by simp [wantedBy, e21], ?_⟩; unfold Gives; go_simp; exact ⟨Ext.refl _, congrArg Value.bool (by first | rfl | exact decide_eq_false (by omega) | exact decide_eq_true (by omega) | (simp only [bne, ht35]; done) | (simp only [bne, ht35]; rfl) | (simp only [bne, hne]; rfl) | simp [ht35])⟩
           · intro ρ w' hE hB hD; have e21 : ρ (.tmp 21) = .bool false := hD 4 21 rfl rfl; have e25 : ρ (.tmp 25) = .bool false := hD 8 25 rfl rfl; clear hB hD; refine .inl ⟨by simp [wantedBy, e21], ?_⟩; unfold Gives; go_simp; first | done | exact xr0 | exact xr1
           · intro ρ w' hE hB hD; have e0 : ρ (.tmp 0) = _ := hB (.tmp 0) rfl; have e26 : ρ (.tmp 26) = .bool false := hD 9 26 rfl rfl; clear hB hD; exact .inr ⟨by first | (simp [wantedBy, e26]; done) | (simp [wantedBy, e26]; rfl), rfl⟩
           · intro ρ w' hE hB hD; have e8 : ρ (.tmp 8) = _ := hB (.tmp 8) rfl; have e26 : ρ (.tmp 26) = .bool false := hD 9 26 rfl rfl; clear hB hD; exact .inr ⟨by first | (simp [wantedBy, e26]; done) | (simp [wantedBy, e26]; rfl), rfl⟩
           · intro ρ w' hE hB hD; have e26 : ρ (.tmp 26) = .bool false := hD 9 26 rfl rfl; have e27 : ρ (.tmp 27) = undef := hD 10 27 rfl rfl; have e28 : ρ (.tmp 28) = undef := hD 11 28 rfl rfl; clear hB hD; exact .inr ⟨by first | (simp [wantedBy, e26]; done) | (simp [wantedBy, e26]; rfl), rfl⟩
           · intro ρ w' hE hB hD; have e26 : ρ (.tmp 26) = .bool false := hD 9 26 rfl rfl; have e29 : ρ (.tmp 29) = undef := hD 12 29 rfl rfl; clear hB hD; exact .inr ⟨by first | (simp [wantedBy, e26]; done) | (simp [wantedBy, e26]; rfl), rfl⟩
           · intro ρ w' hE hB hD; have e2 : ρ (.tmp 2) = _ := hB (.tmp 2) rfl; have e26 : ρ (.tmp 26) = .bool false := hD 9 26 rfl rfl; clear hB hD; exact .inr ⟨by first | (simp [wantedBy, e26]; done) | (simp [wantedBy, e26]; rfl), rfl⟩
           · intro ρ w' hE hB hD; have e7 : ρ (.tmp 7) = _ := hB (.tmp 7) rfl; have e26 : ρ (.tmp 26) = .bool false := hD 9 26 rfl rfl; clear hB hD; exact .inr ⟨by first | (simp [wantedBy, e26]; done) | (simp [wantedBy, e26]; rfl), rfl⟩
           · intro ρ w' hE hB hD; have e26 : ρ (.tmp 26) = .bool false := hD 9 26 rfl rfl; have e31 : ρ (.tmp 31) = undef := hD 14 31 rfl rfl; have e32 : ρ (.tmp 32) = undef := hD 15 32 rfl rfl; clear hB hD; exact .inr ⟨by first | (simp [wantedBy, e26]; done) | (simp [wantedBy, e26]; rfl), rfl⟩
           · intro ρ w' hE hB hD; have e26 : ρ (.tmp 26) = .bool false := hD 9 26 rfl rfl; have e30 : ρ (.tmp 30) = undef := hD 13 30 rfl rfl; have e33 : ρ (.tmp 33) = undef := hD 16 33 rfl rfl; clear hB hD; exact .inr ⟨by first | (simp [wantedBy, e26]; done) | (simp [wantedBy, e26]; rfl), rfl⟩
           · intro ρ w' hE hB hD; have ec := ctK hB
             have e21 : ρ (.tmp 21) = .bool false := hD 4 21 rfl rfl; have e26 : ρ (.tmp 26) = .bool false := hD 9 26 rfl rfl; have e34 : ρ (.tmp 34) = undef := hD 17 34 rfl rfl; clear hB hD; refine .inl ⟨by simp [wantedBy, e21], ?_⟩; unfold Gives; go_simp; first | done | exact xr0 | exact xr1
           · intro ρ w' hE hB hD; have ec := ctK hB
             have e21 : ρ (.tmp 21) = .bool false := hD 4 21 rfl rfl; have e35 : ρ (.tmp 35) = .bool false := hD 18 35 rfl rfl; clear hB hD; refine .inl ⟨rfl, ?_⟩; unfold Gives; go_simp; first | done | exact xr0 | exact xr1
           · intro ρ w' hE hB hD; have e36 : ρ (.tmp 36) = .bool false := hD 19 36 rfl rfl; clear hB hD; refine .inl ⟨rfl, ?_⟩; unfold Gives; go_simp; first | done | exact xr0 | exact xr1
           · intro ρ w' hE hB hD; have e2 : ρ (.tmp 2) = _ := hB (.tmp 2) rfl; have e37 : ρ (.tmp 37) = .bool false := hD 20 37 rfl rfl; clear hB hD; refine .inl ⟨by simp [wantedBy, e37], ?_⟩; unfold Gives; go_simp; first | done | exact xr0 | exact xr1
           · intro ρ w' hE hB hD; have e7 : ρ (.tmp 7) = _ := hB (.tmp 7) rfl; have e37 : ρ (.tmp 37) = .bool false := hD 20 37 rfl rfl; clear hB hD; refine .inl ⟨by simp [wantedBy, e37], ?_⟩; unfold Gives; go_simp; first | done | exact xr0 | exact xr1
           · intro ρ w' hE hB hD; have e37 : ρ (.tmp 37) = .bool false := hD 20 37 rfl rfl; have e38 : ρ (.tmp 38) = .string ⟨text.toArray⟩ := hD 21 38 rfl rfl; have e39 : ρ (.tmp 39) = .int .i64 (j : Int) := hD 22 39 rfl rfl; clear hB hD; refine .inl ⟨by simp [wantedBy, e37], ?_⟩; unfold Gives; go_simp; first | done | exact xr0 | exact xr1
           · intro ρ w' hE hB hD; have ec := ctK hB
             have e37 : ρ (.tmp 37) = .bool false := hD 20 37 rfl rfl; have e40 : ρ (.tmp 40) = .int .u8 (t.toNat : Int) := hD 23 40 rfl rfl; clear hB hD; refine .inl ⟨by simp [wantedBy, e37], ?_⟩; unfold Gives; go_simp; exact ⟨Ext.refl _, congrArg Value.bool (by first | rfl | exact decide_eq_false (by omega) | exact decide_eq_true (by omega) | (simp only [bne, ht35]; done) | (simp only [bne, ht35]; rfl) | (simp only [bne, hne]; rfl) | simp [ht35])⟩
           · intro ρ w' hE hB hD; have e37 : ρ (.tmp 37) = .bool false := hD 20 37 rfl rfl; have e41 : ρ (.tmp 41) = .bool true := hD 24 41 rfl rfl; clear hB hD; refine .inl ⟨by simp [wantedBy, e37], ?_⟩; unfold Gives; go_simp; first | done | exact xr0 | exact xr1
           · intro ρ w' hE hB hD; have e0 : ρ (.tmp 0) = _ := hB (.tmp 0) rfl; have e42 : ρ (.tmp 42) = .bool true := hD 25 42 rfl rfl; clear hB hD; refine .inl ⟨by simp [wantedBy, e42], ?_⟩; unfold Gives; go_simp; first | done | exact xr0 | exact xr1
           · intro ρ w' hE hB hD; have e8 : ρ (.tmp 8) = _ := hB (.tmp 8) rfl; have e42 : ρ (.tmp 42) = .bool true := hD 25 42 rfl rfl; clear hB hD; refine .inl ⟨by simp [wantedBy, e42], ?_⟩; unfold Gives; go_simp; first | done | exact xr0 | exact xr1
           · intro ρ w' hE hB hD; have e42 : ρ (.tmp 42) = .bool true := hD 25 42 rfl rfl; have e43 : ρ (.tmp 43) = .slice (some ad) s.length cap := hD 26 43 rfl rfl; have e44 : ρ (.tmp 44) = .int .i64 ((k : Int) + (j : Int)) := hD 27 44 rfl rfl; clear hB hD; refine .inl ⟨by simp [wantedBy, e42], ?_⟩; unfold Gives; go_simp; first | done | exact xr0 | exact xr1
           · intro ρ w' hE hB hD; have q := hE.cellA HC.out; have e42 : ρ (.tmp 42) = .bool true := hD 25 42 rfl rfl; have e45 : ρ (.tmp 45) = .pointer (some (ad.add (k + j))) := hD 28 45 rfl rfl; clear hB hD; refine .inl ⟨by simp [wantedBy, e42], ?_⟩; unfold Gives; go_simp; first | done | exact xr0 | exact xr1
           · intro ρ w' hE hB hD; have hB0 := fun f => hB (.func f) rfl
             have e42 : ρ (.tmp 42) = .bool true := hD 25 42 rfl rfl; have e46 : ρ (.tmp 46) = .int .u8 (c.toNat : Int) := hD 29 46 rfl rfl; clear hB hD; refine .inl ⟨by simp [wantedBy, e42], ?_⟩; refine gives_call ent_fields_digit (hB0 _) ?_; simp only [List.map_cons, List.map_nil, e46]; refine (digit_calls c _).mono ?_; rw [HDG.out]; rintro e w'' ⟨rfl, rfl⟩; exact ⟨_, rfl, Ext.refl _, rfl⟩
           · intro ρ w' hE hB hD; have e42 : ρ (.tmp 42) = .bool true := hD 25 42 rfl rfl; have e47 : ρ (.tmp 47) = .bool true := hD 30 47 rfl rfl; clear hB hD; refine .inl ⟨by simp [wantedBy, e42], ?_⟩; unfold Gives; go_simp; first | done | exact xr0 | exact xr1
           · intro ρ w' hE hB hD; have ec := ctK hB
             have e37 : ρ (.tmp 37) = .bool false := hD 20 37 rfl rfl; have e42 : ρ (.tmp 42) = .bool true := hD 25 42 rfl rfl; have e48 : ρ (.tmp 48) = .bool false := hD 31 48 rfl rfl; clear hB hD; refine .inl ⟨by simp [wantedBy, e37], ?_⟩; unfold Gives; go_simp; first | done | exact xr0 | exact xr1
           · intro ρ w' hE hB hD; have ec := ctK hB
             have e37 : ρ (.tmp 37) = .bool false := hD 20 37 rfl rfl; have e49 : ρ (.tmp 49) = .bool false := hD 32 49 rfl rfl; clear hB hD; refine .inl ⟨rfl, ?_⟩; unfold Gives; go_simp; first | done | exact xr0 | exact xr1
         intro a' w1 hE1 hd' hs' hB' hP'; have ha' := act_of_posts [(17, .int .i64 ((k : Int) + (j : Int))), (18, .slice (some ad) s.length cap), (19, .int .i64 (s.length : Int)), (20, .bool false), (21, .bool false), (22, .string ⟨text.toArray⟩), (23, .int .i64 (j : Int)), (24, .int .u8 (t.toNat : Int)), (25, .bool false), (26, .bool false), (27, undef), (28, undef), (29, undef), (30, undef), (31, undef), (32, undef), (33, undef), (34, undef), (35, .bool false), (36, .bool false), (37, .bool false), (38, .string ⟨text.toArray⟩), (39, .int .i64 (j : Int)), (40, .int .u8 (t.toNat : Int)), (41, .bool true), (42, .bool true), (43, .slice (some ad) s.length cap), (44, .int .i64 ((k : Int) + (j : Int))), (45, .pointer (some (ad.add (k + j)))), (46, .int .u8 (c.toNat : Int)), (47, .bool true), (48, .bool false), (49, .bool false), (50, .bool false)] hd' hs' hB' (by simp) (by kernel_rfl) (by
          intro p hp; simp only [List.mem_cons, List.mem_nil_iff, or_false] at hp
          rcases hp with rfl | rfl | rfl | rfl | rfl | rfl | rfl | rfl | rfl | rfl | rfl | rfl | rfl | rfl | rfl | rfl | rfl | rfl | rfl | rfl | rfl | rfl | rfl | rfl | rfl | rfl | rfl | rfl | rfl | rfl | rfl | rfl | rfl | rfl
          · exact hP' 0 17 rfl
          · exact hP' 1 18 rfl
          · exact hP' 2 19 rfl
          · exact hP' 3 20 rfl
          · exact hP' 4 21 rfl
          · exact hP' 5 22 rfl
          · exact hP' 6 23 rfl
          · exact hP' 7 24 rfl
          · exact hP' 8 25 rfl
          · exact hP' 9 26 rfl
          · exact hP' 10 27 rfl
          · exact hP' 11 28 rfl
          · exact hP' 12 29 rfl
          · exact hP' 13 30 rfl
          · exact hP' 14 31 rfl
          · exact hP' 15 32 rfl
          · exact hP' 16 33 rfl
          · exact hP' 17 34 rfl
          · exact hP' 18 35 rfl
          · exact hP' 19 36 rfl
          · exact hP' 20 37 rfl
          · exact hP' 21 38 rfl
          · exact hP' 22 39 rfl
          · exact hP' 23 40 rfl
          · exact hP' 24 41 rfl
          · exact hP' 25 42 rfl
          · exact hP' 26 43 rfl
          · exact hP' 27 44 rfl
          · exact hP' 28 45 rfl
          · exact hP' 29 46 rfl
          · exact hP' 30 47 rfl
          · exact hP' 31 48 rfl
          · exact hP' 32 49 rfl
          · exact hP' 33 50 rfl)
         clear hB' hP' hs' hd'; simp only [List.foldl_cons, List.foldl_nil, List.setIfInBounds_toArray, List.set_cons_succ, List.set_cons_zero] at ha'; subst ha'; go_wp2; go_roundw
         case rel => exact ⟨j + 1, by go_num, by omega, hX.trans hE1, HRES.out⟩
         case measure => simp [intOf]; omega
        | false =>
         have hres := HSTOP.out (by simp [misses, hdg, h35]); have HDG := Lib.hid hdg; have hm : min (k + j) s.length = k + j := by omega
         rw [hm] at hres; have HRES := Lib.hid hres; clear hres hdg h35 hm; go_wp2; refine wp_region_steps (fun _ => by kernel_rfl) [.is (.int .i64 ((k : Int) + (j : Int))), .is (.slice (some ad) s.length cap), .is (.int .i64 (s.length : Int)), .is (.bool false), .is (.bool false), .is (.string ⟨text.toArray⟩), .is (.int .i64 (j : Int)), .is (.int .u8 (t.toNat : Int)), .is (.bool false), .is (.bool false), .is (undef), .is (undef), .is (undef), .is (undef), .is (undef), .is (undef), .is (undef), .is (undef), .is (.bool false), .is (.bool false), .is (.bool false), .is (.string ⟨text.toArray⟩), .is (.int .i64 (j : Int)), .is (.int .u8 (t.toNat : Int)), .is (.bool true), .is (.bool true), .is (.slice (some ad) s.length cap), .is (.int .i64 ((k : Int) + (j : Int))), .is (.pointer (some (ad.add (k + j)))), .is (.int .u8 (c.toNat : Int)), .is (.bool false), .is (.bool true), .is (.bool true), .is (.bool true)] (by kernel_rfl) ?_ ?_
         · refine And.intro ?_ (And.intro ?_ (And.intro ?_ (And.intro ?_ (And.intro ?_ (And.intro ?_ (And.intro ?_ (And.intro ?_ (And.intro ?_ (And.intro ?_ (And.intro ?_ (And.intro ?_ (And.intro ?_ (And.intro ?_ (And.intro ?_ (And.intro ?_ (And.intro ?_ (And.intro ?_ (And.intro ?_ (And.intro ?_ (And.intro ?_ (And.intro ?_ (And.intro ?_ (And.intro ?_ (And.intro ?_ (And.intro ?_ (And.intro ?_ (And.intro ?_ (And.intro ?_ (And.intro ?_ (And.intro ?_ (And.intro ?_ (And.intro ?_ (And.intro ?_ (True.intro))))))))))))))))))))))))))))))))))
           · intro ρ w' hE hB hD; have e8 : ρ (.tmp 8) = _ := hB (.tmp 8) rfl; clear hB hD; refine .inl ⟨rfl, ?_⟩; unfold Gives; go_simp; first | done | exact xr0 | exact xr1
           · intro ρ w' hE hB hD; have e0 : ρ (.tmp 0) = _ := hB (.tmp 0) rfl; clear hB hD; refine .inl ⟨rfl, ?_⟩; unfold Gives; go_simp; first | done | exact xr0 | exact xr1
           · intro ρ w' hE hB hD; have e18 : ρ (.tmp 18) = .slice (some ad) s.length cap := hD 1 18 rfl rfl; clear hB hD; refine .inl ⟨rfl, ?_⟩; unfold Gives; go_simp; first | done | exact xr0 | exact xr1
           · intro ρ w' hE hB hD; have e17 : ρ (.tmp 17) = .int .i64 ((k : Int) + (j : Int)) := hD 0 17 rfl rfl; have e19 : ρ (.tmp 19) = .int .i64 (s.length : Int) := hD 2 19 rfl rfl; clear hB hD; refine .inl ⟨rfl, ?_⟩; unfold Gives; go_simp; exact ⟨Ext.refl _, congrArg Value.bool (by first | rfl | exact decide_eq_false (by omega) | exact decide_eq_true (by omega) | (simp only [bne, ht35]; done) | (simp only [bne, ht35]; rfl) | (simp only [bne, hne]; rfl) | simp [ht35])⟩
           · intro ρ w' hE hB hD; have e20 : ρ (.tmp 20) = .bool false := hD 3 20 rfl rfl; clear hB hD; refine .inl ⟨rfl, ?_⟩; unfold Gives; go_simp; first | done | exact xr0 | exact xr1
           · intro ρ w' hE hB hD; have e2 : ρ (.tmp 2) = _ := hB (.tmp 2) rfl; have e21 : ρ (.tmp 21) = .bool false := hD 4 21 rfl rfl; clear hB hD; refine .inl ⟨by simp [wantedBy, e21], ?_⟩; unfold Gives; go_simp; first | done | exact xr0 | exact xr1
           · intro ρ w' hE hB hD; have e7 : ρ (.tmp 7) = _ := hB (.tmp 7) rfl; have e21 : ρ (.tmp 21) = .bool false := hD 4 21 rfl rfl; clear hB hD; refine .inl ⟨by simp [wantedBy, e21], ?_⟩; unfold Gives; go_simp; first | done | exact xr0 | exact xr1
           · intro ρ w' hE hB hD; have e21 : ρ (.tmp 21) = .bool false := hD 4 21 rfl rfl; have e22 : ρ (.tmp 22) = .string ⟨text.toArray⟩ := hD 5 22 rfl rfl; have e23 : ρ (.tmp 23) = .int .i64 (j : Int) := hD 6 23 rfl rfl; clear hB hD; refine .inl ⟨by simp [wantedBy, e21], ?_⟩; unfold Gives; go_simp; first | done | exact xr0 | exact xr1
           · intro ρ w' hE hB hD; have ec := ctK hB
             have e21 : ρ (.tmp 21) = .bool false := hD 4 21 rfl rfl; have e24 : ρ (.tmp 24) = .int .u8 (t.toNat : Int) := hD 7 24 rfl rfl; clear hB hD; refine .inl ⟨by simp [wantedBy, e21], ?_⟩; unfold Gives; go_simp; exact ⟨Ext.refl _, congrArg Value.bool (by first | rfl | exact decide_eq_false (by omega) | exact decide_eq_true (by omega) | (simp only [bne, ht35]; done) | (simp only [bne, ht35]; rfl) | (simp only [bne, hne]; rfl) | simp [ht35])⟩
           · intro ρ w' hE hB hD; have e21 : ρ (.tmp 21) = .bool false := hD 4 21 rfl rfl; have e25 : ρ (.tmp 25) = .bool false := hD 8 25 rfl rfl; clear hB hD; refine .inl ⟨by simp [wantedBy, e21], ?_⟩; unfold Gives; go_simp; first | done | exact xr0 | exact xr1
           · intro ρ w' hE hB hD; have e0 : ρ (.tmp 0) = _ := hB (.tmp 0) rfl; have e26 : ρ (.tmp 26) = .bool false := hD 9 26 rfl rfl; clear hB hD; exact .inr ⟨by first | (simp [wantedBy, e26]; done) | (simp [wantedBy, e26]; rfl), rfl⟩
           · intro ρ w' hE hB hD; have e8 : ρ (.tmp 8) = _ := hB (.tmp 8) rfl; have e26 : ρ (.tmp 26) = .bool false := hD 9 26 rfl rfl; clear hB hD; exact .inr ⟨by first | (simp [wantedBy, e26]; done) | (simp [wantedBy, e26]; rfl), rfl⟩
           · intro ρ w' hE hB hD; have e26 : ρ (.tmp 26) = .bool false := hD 9 26 rfl rfl; have e27 : ρ (.tmp 27) = undef := hD 10 27 rfl rfl; have e28 : ρ (.tmp 28) = undef := hD 11 28 rfl rfl; clear hB hD; exact .inr ⟨by first | (simp [wantedBy, e26]; done) | (simp [wantedBy, e26]; rfl), rfl⟩
           · intro ρ w' hE hB hD; have e26 : ρ (.tmp 26) = .bool false := hD 9 26 rfl rfl; have e29 : ρ (.tmp 29) = undef := hD 12 29 rfl rfl; clear hB hD; exact .inr ⟨by first | (simp [wantedBy, e26]; done) | (simp [wantedBy, e26]; rfl), rfl⟩
           · intro ρ w' hE hB hD; have e2 : ρ (.tmp 2) = _ := hB (.tmp 2) rfl; have e26 : ρ (.tmp 26) = .bool false := hD 9 26 rfl rfl; clear hB hD; exact .inr ⟨by first | (simp [wantedBy, e26]; done) | (simp [wantedBy, e26]; rfl), rfl⟩
           · intro ρ w' hE hB hD; have e7 : ρ (.tmp 7) = _ := hB (.tmp 7) rfl; have e26 : ρ (.tmp 26) = .bool false := hD 9 26 rfl rfl; clear hB hD; exact .inr ⟨by first | (simp [wantedBy, e26]; done) | (simp [wantedBy, e26]; rfl), rfl⟩
           · intro ρ w' hE hB hD; have e26 : ρ (.tmp 26) = .bool false := hD 9 26 rfl rfl; have e31 : ρ (.tmp 31) = undef := hD 14 31 rfl rfl; have e32 : ρ (.tmp 32) = undef := hD 15 32 rfl rfl; clear hB hD; exact .inr ⟨by first | (simp [wantedBy, e26]; done) | (simp [wantedBy, e26]; rfl), rfl⟩
           · intro ρ w' hE hB hD; have e26 : ρ (.tmp 26) = .bool false := hD 9 26 rfl rfl; have e30 : ρ (.tmp 30) = undef := hD 13 30 rfl rfl; have e33 : ρ (.tmp 33) = undef := hD 16 33 rfl rfl; clear hB hD; exact .inr ⟨by first | (simp [wantedBy, e26]; done) | (simp [wantedBy, e26]; rfl), rfl⟩
           · intro ρ w' hE hB hD; have ec := ctK hB
             have e21 : ρ (.tmp 21) = .bool false := hD 4 21 rfl rfl; have e26 : ρ (.tmp 26) = .bool false := hD 9 26 rfl rfl; have e34 : ρ (.tmp 34) = undef := hD 17 34 rfl rfl; clear hB hD; refine .inl ⟨by simp [wantedBy, e21], ?_⟩; unfold Gives; go_simp; first | done | exact xr0 | exact xr1
           · intro ρ w' hE hB hD; have ec := ctK hB
             have e21 : ρ (.tmp 21) = .bool false := hD 4 21 rfl rfl; have e35 : ρ (.tmp 35) = .bool false := hD 18 35 rfl rfl; clear hB hD; refine .inl ⟨rfl, ?_⟩; unfold Gives; go_simp; first | done | exact xr0 | exact xr1
           · intro ρ w' hE hB hD; have e36 : ρ (.tmp 36) = .bool false := hD 19 36 rfl rfl; clear hB hD; refine .inl ⟨rfl, ?_⟩; unfold Gives; go_simp; first | done | exact xr0 | exact xr1
           · intro ρ w' hE hB hD; have e2 : ρ (.tmp 2) = _ := hB (.tmp 2) rfl; have e37 : ρ (.tmp 37) = .bool false := hD 20 37 rfl rfl; clear hB hD; refine .inl ⟨by simp [wantedBy, e37], ?_⟩; unfold Gives; go_simp; first | done | exact xr0 | exact xr1
           · intro ρ w' hE hB hD; have e7 : ρ (.tmp 7) = _ := hB (.tmp 7) rfl; have e37 : ρ (.tmp 37) = .bool false := hD 20 37 rfl rfl; clear hB hD; refine .inl ⟨by simp [wantedBy, e37], ?_⟩; unfold Gives; go_simp; first | done | exact xr0 | exact xr1
           · intro ρ w' hE hB hD; have e37 : ρ (.tmp 37) = .bool false := hD 20 37 rfl rfl; have e38 : ρ (.tmp 38) = .string ⟨text.toArray⟩ := hD 21 38 rfl rfl; have e39 : ρ (.tmp 39) = .int .i64 (j : Int) := hD 22 39 rfl rfl; clear hB hD; refine .inl ⟨by simp [wantedBy, e37], ?_⟩; unfold Gives; go_simp; first | done | exact xr0 | exact xr1
           · intro ρ w' hE hB hD; have ec := ctK hB
             have e37 : ρ (.tmp 37) = .bool false := hD 20 37 rfl rfl; have e40 : ρ (.tmp 40) = .int .u8 (t.toNat : Int) := hD 23 40 rfl rfl; clear hB hD; refine .inl ⟨by simp [wantedBy, e37], ?_⟩; unfold Gives; go_simp; exact ⟨Ext.refl _, congrArg Value.bool (by first | rfl | exact decide_eq_false (by omega) | exact decide_eq_true (by omega) | (simp only [bne, ht35]; done) | (simp only [bne, ht35]; rfl) | (simp only [bne, hne]; rfl) | simp [ht35])⟩
           · intro ρ w' hE hB hD; have e37 : ρ (.tmp 37) = .bool false := hD 20 37 rfl rfl; have e41 : ρ (.tmp 41) = .bool true := hD 24 41 rfl rfl; clear hB hD; refine .inl ⟨by simp [wantedBy, e37], ?_⟩; unfold Gives; go_simp; first | done | exact xr0 | exact xr1
           · intro ρ w' hE hB hD; have e0 : ρ (.tmp 0) = _ := hB (.tmp 0) rfl; have e42 : ρ (.tmp 42) = .bool true := hD 25 42 rfl rfl; clear hB hD; refine .inl ⟨by simp [wantedBy, e42], ?_⟩; unfold Gives; go_simp; first | done | exact xr0 | exact xr1
           · intro ρ w' hE hB hD; have e8 : ρ (.tmp 8) = _ := hB (.tmp 8) rfl; have e42 : ρ (.tmp 42) = .bool true := hD 25 42 rfl rfl; clear hB hD; refine .inl ⟨by simp [wantedBy, e42], ?_⟩; unfold Gives; go_simp; first | done | exact xr0 | exact xr1
           · intro ρ w' hE hB hD; have e42 : ρ (.tmp 42) = .bool true := hD 25 42 rfl rfl; have e43 : ρ (.tmp 43) = .slice (some ad) s.length cap := hD 26 43 rfl rfl; have e44 : ρ (.tmp 44) = .int .i64 ((k : Int) + (j : Int)) := hD 27 44 rfl rfl; clear hB hD; refine .inl ⟨by simp [wantedBy, e42], ?_⟩; unfold Gives; go_simp; first | done | exact xr0 | exact xr1
           · intro ρ w' hE hB hD; have q := hE.cellA HC.out; have e42 : ρ (.tmp 42) = .bool true := hD 25 42 rfl rfl; have e45 : ρ (.tmp 45) = .pointer (some (ad.add (k + j))) := hD 28 45 rfl rfl; clear hB hD; refine .inl ⟨by simp [wantedBy, e42], ?_⟩; unfold Gives; go_simp; first | done | exact xr0 | exact xr1
           · intro ρ w' hE hB hD; have hB0 := fun f => hB (.func f) rfl
             have e42 : ρ (.tmp 42) = .bool true := hD 25 42 rfl rfl; have e46 : ρ (.tmp 46) = .int .u8 (c.toNat : Int) := hD 29 46 rfl rfl; clear hB hD; refine .inl ⟨by simp [wantedBy, e42], ?_⟩; refine gives_call ent_fields_digit (hB0 _) ?_; simp only [List.map_cons, List.map_nil, e46]; refine (digit_calls c _).mono ?_; rw [HDG.out]; rintro e w'' ⟨rfl, rfl⟩; exact ⟨_, rfl, Ext.refl _, rfl⟩
           · intro ρ w' hE hB hD; have e42 : ρ (.tmp 42) = .bool true := hD 25 42 rfl rfl; have e47 : ρ (.tmp 47) = .bool false := hD 30 47 rfl rfl; clear hB hD; refine .inl ⟨by simp [wantedBy, e42], ?_⟩; unfold Gives; go_simp; first | done | exact xr0 | exact xr1
           · intro ρ w' hE hB hD; have ec := ctK hB
             have e37 : ρ (.tmp 37) = .bool false := hD 20 37 rfl rfl; have e42 : ρ (.tmp 42) = .bool true := hD 25 42 rfl rfl; have e48 : ρ (.tmp 48) = .bool true := hD 31 48 rfl rfl; clear hB hD; refine .inl ⟨by simp [wantedBy, e37], ?_⟩; unfold Gives; go_simp; first | done | exact xr0 | exact xr1
           · intro ρ w' hE hB hD; have ec := ctK hB
             have e37 : ρ (.tmp 37) = .bool false := hD 20 37 rfl rfl; have e49 : ρ (.tmp 49) = .bool true := hD 32 49 rfl rfl; clear hB hD; refine .inl ⟨rfl, ?_⟩; unfold Gives; go_simp; first | done | exact xr0 | exact xr1
         intro a' w1 hE1 hd' hs' hB' hP'; have ha' := act_of_posts [(17, .int .i64 ((k : Int) + (j : Int))), (18, .slice (some ad) s.length cap), (19, .int .i64 (s.length : Int)), (20, .bool false), (21, .bool false), (22, .string ⟨text.toArray⟩), (23, .int .i64 (j : Int)), (24, .int .u8 (t.toNat : Int)), (25, .bool false), (26, .bool false), (27, undef), (28, undef), (29, undef), (30, undef), (31, undef), (32, undef), (33, undef), (34, undef), (35, .bool false), (36, .bool false), (37, .bool false), (38, .string ⟨text.toArray⟩), (39, .int .i64 (j : Int)), (40, .int .u8 (t.toNat : Int)), (41, .bool true), (42, .bool true), (43, .slice (some ad) s.length cap), (44, .int .i64 ((k : Int) + (j : Int))), (45, .pointer (some (ad.add (k + j)))), (46, .int .u8 (c.toNat : Int)), (47, .bool false), (48, .bool true), (49, .bool true), (50, .bool true)] hd' hs' hB' (by simp) (by kernel_rfl) (by
          intro p hp; simp only [List.mem_cons, List.mem_nil_iff, or_false] at hp
          rcases hp with rfl | rfl | rfl | rfl | rfl | rfl | rfl | rfl | rfl | rfl | rfl | rfl | rfl | rfl | rfl | rfl | rfl | rfl | rfl | rfl | rfl | rfl | rfl | rfl | rfl | rfl | rfl | rfl | rfl | rfl | rfl | rfl | rfl | rfl
          · exact hP' 0 17 rfl
          · exact hP' 1 18 rfl
          · exact hP' 2 19 rfl
          · exact hP' 3 20 rfl
          · exact hP' 4 21 rfl
          · exact hP' 5 22 rfl
          · exact hP' 6 23 rfl
          · exact hP' 7 24 rfl
          · exact hP' 8 25 rfl
          · exact hP' 9 26 rfl
          · exact hP' 10 27 rfl
          · exact hP' 11 28 rfl
          · exact hP' 12 29 rfl
          · exact hP' 13 30 rfl
          · exact hP' 14 31 rfl
          · exact hP' 15 32 rfl
          · exact hP' 16 33 rfl
          · exact hP' 17 34 rfl
          · exact hP' 18 35 rfl
          · exact hP' 19 36 rfl
          · exact hP' 20 37 rfl
          · exact hP' 21 38 rfl
          · exact hP' 22 39 rfl
          · exact hP' 23 40 rfl
          · exact hP' 24 41 rfl
          · exact hP' 25 42 rfl
          · exact hP' 26 43 rfl
          · exact hP' 27 44 rfl
          · exact hP' 28 45 rfl
          · exact hP' 29 46 rfl
          · exact hP' 30 47 rfl
          · exact hP' 31 48 rfl
          · exact hP' 32 49 rfl
          · exact hP' 33 50 rfl)
         clear hB' hP' hs' hd'; simp only [List.foldl_cons, List.foldl_nil, List.setIfInBounds_toArray, List.set_cons_succ, List.set_cons_zero] at ha'; subst ha'; go_wp2; go_ret; refine ⟨?_, hX.trans hE1⟩; rw [HRES.out]; simp
         omega
      · have ht35 : ((t.toNat : Int) == 35) = false := by
         rw [beq_eq_false_iff_ne]; intro e; exact h35 (UInt8.toNat_inj.1 (by simpa using (by omega : t.toNat = 35)))
        by_cases hct : c = t
        · have hres := HSTEP.out (by simp [misses, h35, hct]); have HRES := Lib.hid hres; have hne : ((c.toNat : Int) == (t.toNat : Int)) = true := by rw [hct]; simp
          clear hres h35 hct; go_wp2; refine wp_region_steps (fun _ => by kernel_rfl) [.is (.int .i64 ((k : Int) + (j : Int))), .is (.slice (some ad) s.length cap), .is (.int .i64 (s.length : Int)), .is (.bool false), .is (.bool false), .is (.string ⟨text.toArray⟩), .is (.int .i64 (j : Int)), .is (.int .u8 (t.toNat : Int)), .is (.bool true), .is (.bool true), .is (.slice (some ad) s.length cap), .is (.int .i64 ((k : Int) + (j : Int))), .is (.pointer (some (ad.add (k + j)))), .is (.int .u8 (c.toNat : Int)), .is (.string ⟨text.toArray⟩), .is (.int .i64 (j : Int)), .is (.int .u8 (t.toNat : Int)), .is (.bool false), .is (.bool false), .is (.bool false), .is (.bool false), .is (.string ⟨text.toArray⟩), .is (.int .i64 (j : Int)), .is (.int .u8 (t.toNat : Int)), .is (.bool false), .is (.bool false), .is (undef), .is (undef), .is (undef), .is (undef), .is (undef), .is (undef), .is (.bool false), .is (.bool false)] (by kernel_rfl) ?_ ?_
          · refine And.intro ?_ (And.intro ?_ (And.intro ?_ (And.intro ?_ (And.intro ?_ (And.intro ?_ (And.intro ?_ (And.intro ?_ (And.intro ?_ (And.intro ?_ (And.intro ?_ (And.intro ?_ (And.intro ?_ (And.intro ?_ (And.intro ?_ (And.intro ?_ (And.intro ?_ (And.intro ?_ (And.intro ?_ (And.intro ?_ (And.intro ?_ (And.intro ?_ (And.intro ?_ (And.intro ?_ (And.intro ?_ (And.intro ?_ (And.intro ?_ (And.intro ?_ (And.intro ?_ (And.intro ?_ (And.intro ?_ (And.intro ?_ (And.intro ?_ (And.intro ?_ (True.intro))))))))))))))))))))))))))))))))))
            · intro ρ w' hE hB hD; have e8 : ρ (.tmp 8) = _ := hB (.tmp 8) rfl; clear hB hD; refine .inl ⟨rfl, ?_⟩; unfold Gives; go_simp; first | done | exact xr0 | exact xr1
            · intro ρ w' hE hB hD; have e0 : ρ (.tmp 0) = _ := hB (.tmp 0) rfl; clear hB hD; refine .inl ⟨rfl, ?_⟩; unfold Gives; go_simp; first | done | exact xr0 | exact xr1
            · intro ρ w' hE hB hD; have e18 : ρ (.tmp 18) = .slice (some ad) s.length cap := hD 1 18 rfl rfl; clear hB hD; refine .inl ⟨rfl, ?_⟩; unfold Gives; go_simp; first | done | exact xr0 | exact xr1
            · intro ρ w' hE hB hD; have e17 : ρ (.tmp 17) = .int .i64 ((k : Int) + (j : Int)) := hD 0 17 rfl rfl; have e19 : ρ (.tmp 19) = .int .i64 (s.length : Int) := hD 2 19 rfl rfl; clear hB hD; refine .inl ⟨rfl, ?_⟩; unfold Gives; go_simp; exact ⟨Ext.refl _, congrArg Value.bool (by first | rfl | exact decide_eq_false (by omega) | exact decide_eq_true (by omega) | (simp only [bne, ht35]; done) | (simp only [bne, ht35]; rfl) | (simp only [bne, hne]; rfl) | simp [ht35])⟩
            · intro ρ w' hE hB hD; have e20 : ρ (.tmp 20) = .bool false := hD 3 20 rfl rfl; clear hB hD; refine .inl ⟨rfl, ?_⟩; unfold Gives; go_simp; first | done | exact xr0 | exact xr1
            · intro ρ w' hE hB hD; have e2 : ρ (.tmp 2) = _ := hB (.tmp 2) rfl; have e21 : ρ (.tmp 21) = .bool false := hD 4 21 rfl rfl; clear hB hD; refine .inl ⟨by simp [wantedBy, e21], ?_⟩; unfold Gives; go_simp; first | done | exact xr0 | exact xr1
            · intro ρ w' hE hB hD; have e7 : ρ (.tmp 7) = _ := hB (.tmp 7) rfl; have e21 : ρ (.tmp 21) = .bool false := hD 4 21 rfl rfl; clear hB hD; refine .inl ⟨by simp [wantedBy, e21], ?_⟩; unfold Gives; go_simp; first | done | exact xr0 | exact xr1
            · intro ρ w' hE hB hD; have e21 : ρ (.tmp 21) = .bool false := hD 4 21 rfl rfl; have e22 : ρ (.tmp 22) = .string ⟨text.toArray⟩ := hD 5 22 rfl rfl; have e23 : ρ (.tmp 23) = .int .i64 (j : Int) := hD 6 23 rfl rfl; clear hB hD; refine .inl ⟨by simp [wantedBy, e21], ?_⟩; unfold Gives; go_simp; first | done | exact xr0 | exact xr1
            · intro ρ w' hE hB hD; have ec := ctK hB
              have e21 : ρ (.tmp 21) = .bool false := hD 4 21 rfl rfl; have e24 : ρ (.tmp 24) = .int .u8 (t.toNat : Int) := hD 7 24 rfl rfl; clear hB hD; refine .inl ⟨by simp [wantedBy, e21], ?_⟩; unfold Gives; go_simp; exact ⟨Ext.refl _, congrArg Value.bool (by first | rfl | exact decide_eq_false (by omega) | exact decide_eq_true (by omega) | (simp only [bne, ht35]; done) | (simp only [bne, ht35]; rfl) | (simp only [bne, hne]; rfl) | simp [ht35])⟩
            · intro ρ w' hE hB hD; have e21 : ρ (.tmp 21) = .bool false := hD 4 21 rfl rfl; have e25 : ρ (.tmp 25) = .bool true := hD 8 25 rfl rfl; clear hB hD; refine .inl ⟨by simp [wantedBy, e21], ?_⟩; unfold Gives; go_simp; first | done | exact xr0 | exact xr1
            · intro ρ w' hE hB hD; have e0 : ρ (.tmp 0) = _ := hB (.tmp 0) rfl; have e26 : ρ (.tmp 26) = .bool true := hD 9 26 rfl rfl; clear hB hD; refine .inl ⟨by simp [wantedBy, e26], ?_⟩; unfold Gives; go_simp; first | done | exact xr0 | exact xr1
            · intro ρ w' hE hB hD; have e8 : ρ (.tmp 8) = _ := hB (.tmp 8) rfl; have e26 : ρ (.tmp 26) = .bool true := hD 9 26 rfl rfl; clear hB hD; refine .inl ⟨by simp [wantedBy, e26], ?_⟩; unfold Gives; go_simp; first | done | exact xr0 | exact xr1
            · intro ρ w' hE hB hD; have e26 : ρ (.tmp 26) = .bool true := hD 9 26 rfl rfl; have e27 : ρ (.tmp 27) = .slice (some ad) s.length cap := hD 10 27 rfl rfl; have e28 : ρ (.tmp 28) = .int .i64 ((k : Int) + (j : Int)) := hD 11 28 rfl rfl; clear hB hD; refine .inl ⟨by simp [wantedBy, e26], ?_⟩; unfold Gives; go_simp; first | done | exact xr0 | exact xr1
            · intro ρ w' hE hB hD; have q := hE.cellA HC.out; have e26 : ρ (.tmp 26) = .bool true := hD 9 26 rfl rfl; have e29 : ρ (.tmp 29) = .pointer (some (ad.add (k + j))) := hD 12 29 rfl rfl; clear hB hD; refine .inl ⟨by simp [wantedBy, e26], ?_⟩; unfold Gives; go_simp; first | done | exact xr0 | exact xr1
            · intro ρ w' hE hB hD; have e2 : ρ (.tmp 2) = _ := hB (.tmp 2) rfl; have e26 : ρ (.tmp 26) = .bool true := hD 9 26 rfl rfl; clear hB hD; refine .inl ⟨by simp [wantedBy, e26], ?_⟩; unfold Gives; go_simp; first | done | exact xr0 | exact xr1
            · intro ρ w' hE hB hD; have e7 : ρ (.tmp 7) = _ := hB (.tmp 7) rfl; have e26 : ρ (.tmp 26) = .bool true := hD 9 26 rfl rfl; clear hB hD; refine .inl ⟨by simp [wantedBy, e26], ?_⟩; unfold Gives; go_simp; first | done | exact xr0 | exact xr1
            · intro ρ w' hE hB hD; have e26 : ρ (.tmp 26) = .bool true := hD 9 26 rfl rfl; have e31 : ρ (.tmp 31) = .string ⟨text.toArray⟩ := hD 14 31 rfl rfl; have e32 : ρ (.tmp 32) = .int .i64 (j : Int) := hD 15 32 rfl rfl; clear hB hD; refine .inl ⟨by simp [wantedBy, e26], ?_⟩; unfold Gives; go_simp; first | done | exact xr0 | exact xr1
            · intro ρ w' hE hB hD; have e26 : ρ (.tmp 26) = .bool true := hD 9 26 rfl rfl; have e30 : ρ (.tmp 30) = .int .u8 (c.toNat : Int) := hD 13 30 rfl rfl; have e33 : ρ (.tmp 33) = .int .u8 (t.toNat : Int) := hD 16 33 rfl rfl; clear hB hD; refine .inl ⟨by simp [wantedBy, e26], ?_⟩; unfold Gives; go_simp; exact ⟨Ext.refl _, congrArg Value.bool (by first | rfl | exact decide_eq_false (by omega) | exact decide_eq_true (by omega) | (simp only [bne, ht35]; done) | (simp only [bne, ht35]; rfl) | (simp only [bne, hne]; rfl) | simp [ht35])⟩
            · intro ρ w' hE hB hD; have ec := ctK hB
              have e21 : ρ (.tmp 21) = .bool false := hD 4 21 rfl rfl; have e26 : ρ (.tmp 26) = .bool true := hD 9 26 rfl rfl; have e34 : ρ (.tmp 34) = .bool false := hD 17 34 rfl rfl; clear hB hD; refine .inl ⟨by simp [wantedBy, e21], ?_⟩; unfold Gives; go_simp; first | done | exact xr0 | exact xr1
            · intro ρ w' hE hB hD; have ec := ctK hB
              have e21 : ρ (.tmp 21) = .bool false := hD 4 21 rfl rfl; have e35 : ρ (.tmp 35) = .bool false := hD 18 35 rfl rfl; clear hB hD; refine .inl ⟨rfl, ?_⟩; unfold Gives; go_simp; first | done | exact xr0 | exact xr1
            · intro ρ w' hE hB hD; have e36 : ρ (.tmp 36) = .bool false := hD 19 36 rfl rfl; clear hB hD; refine .inl ⟨rfl, ?_⟩; unfold Gives; go_simp; first | done | exact xr0 | exact xr1
            · intro ρ w' hE hB hD; have e2 : ρ (.tmp 2) = _ := hB (.tmp 2) rfl; have e37 : ρ (.tmp 37) = .bool false := hD 20 37 rfl rfl; clear hB hD; refine .inl ⟨by simp [wantedBy, e37], ?_⟩; unfold Gives; go_simp; first | done | exact xr0 | exact xr1
            · intro ρ w' hE hB hD; have e7 : ρ (.tmp 7) = _ := hB (.tmp 7) rfl; have e37 : ρ (.tmp 37) = .bool false := hD 20 37 rfl rfl; clear hB hD; refine .inl ⟨by simp [wantedBy, e37], ?_⟩; unfold Gives; go_simp; first | done | exact xr0 | exact xr1
            · intro ρ w' hE hB hD; have e37 : ρ (.tmp 37) = .bool false := hD 20 37 rfl rfl; have e38 : ρ (.tmp 38) = .string ⟨text.toArray⟩ := hD 21 38 rfl rfl; have e39 : ρ (.tmp 39) = .int .i64 (j : Int) := hD 22 39 rfl rfl; clear hB hD; refine .inl ⟨by simp [wantedBy, e37], ?_⟩; unfold Gives; go_simp; first | done | exact xr0 | exact xr1
            · intro ρ w' hE hB hD; have ec := ctK hB
              have e37 : ρ (.tmp 37) = .bool false := hD 20 37 rfl rfl; have e40 : ρ (.tmp 40) = .int .u8 (t.toNat : Int) := hD 23 40 rfl rfl; clear hB hD; refine .inl ⟨by simp [wantedBy, e37], ?_⟩; unfold Gives; go_simp; exact ⟨Ext.refl _, congrArg Value.bool (by first | rfl | exact decide_eq_false (by omega) | exact decide_eq_true (by omega) | (simp only [bne, ht35]; done) | (simp only [bne, ht35]; rfl) | (simp only [bne, hne]; rfl) | simp [ht35])⟩
            · intro ρ w' hE hB hD; have e37 : ρ (.tmp 37) = .bool false := hD 20 37 rfl rfl; have e41 : ρ (.tmp 41) = .bool false := hD 24 41 rfl rfl; clear hB hD; refine .inl ⟨by simp [wantedBy, e37], ?_⟩; unfold Gives; go_simp; first | done | exact xr0 | exact xr1
            · intro ρ w' hE hB hD; have e0 : ρ (.tmp 0) = _ := hB (.tmp 0) rfl; have e42 : ρ (.tmp 42) = .bool false := hD 25 42 rfl rfl; clear hB hD; exact .inr ⟨by first | (simp [wantedBy, e42]; done) | (simp [wantedBy, e42]; rfl), rfl⟩
            · intro ρ w' hE hB hD; have e8 : ρ (.tmp 8) = _ := hB (.tmp 8) rfl; have e42 : ρ (.tmp 42) = .bool false := hD 25 42 rfl rfl; clear hB hD; exact .inr ⟨by first | (simp [wantedBy, e42]; done) | (simp [wantedBy, e42]; rfl), rfl⟩
            · intro ρ w' hE hB hD; have e42 : ρ (.tmp 42) = .bool false := hD 25 42 rfl rfl; have e43 : ρ (.tmp 43) = undef := hD 26 43 rfl rfl; have e44 : ρ (.tmp 44) = undef := hD 27 44 rfl rfl; clear hB hD; exact .inr ⟨by first | (simp [wantedBy, e42]; done) | (simp [wantedBy, e42]; rfl), rfl⟩
            · intro ρ w' hE hB hD; have e42 : ρ (.tmp 42) = .bool false := hD 25 42 rfl rfl; have e45 : ρ (.tmp 45) = undef := hD 28 45 rfl rfl; clear hB hD; exact .inr ⟨by first | (simp [wantedBy, e42]; done) | (simp [wantedBy, e42]; rfl), rfl⟩
            · intro ρ w' hE hB hD; have hB0 := fun f => hB (.func f) rfl
              have e42 : ρ (.tmp 42) = .bool false := hD 25 42 rfl rfl; have e46 : ρ (.tmp 46) = undef := hD 29 46 rfl rfl; clear hB hD; exact .inr ⟨by first | (simp [wantedBy, e42]; done) | (simp [wantedBy, e42]; rfl), rfl⟩
            · intro ρ w' hE hB hD; have e42 : ρ (.tmp 42) = .bool false := hD 25 42 rfl rfl; have e47 : ρ (.tmp 47) = undef := hD 30 47 rfl rfl; clear hB hD; exact .inr ⟨by first | (simp [wantedBy, e42]; done) | (simp [wantedBy, e42]; rfl), rfl⟩
            · intro ρ w' hE hB hD; have ec := ctK hB
              have e37 : ρ (.tmp 37) = .bool false := hD 20 37 rfl rfl; have e42 : ρ (.tmp 42) = .bool false := hD 25 42 rfl rfl; have e48 : ρ (.tmp 48) = undef := hD 31 48 rfl rfl; clear hB hD; refine .inl ⟨by simp [wantedBy, e37], ?_⟩; unfold Gives; go_simp; first | done | exact xr0 | exact xr1
            · intro ρ w' hE hB hD; have ec := ctK hB
              have e37 : ρ (.tmp 37) = .bool false := hD 20 37 rfl rfl; have e49 : ρ (.tmp 49) = .bool false := hD 32 49 rfl rfl; clear hB hD; refine .inl ⟨rfl, ?_⟩; unfold Gives; go_simp; first | done | exact xr0 | exact xr1
          intro a' w1 hE1 hd' hs' hB' hP'; have ha' := act_of_posts [(17, .int .i64 ((k : Int) + (j : Int))), (18, .slice (some ad) s.length cap), (19, .int .i64 (s.length : Int)), (20, .bool false), (21, .bool false), (22, .string ⟨text.toArray⟩), (23, .int .i64 (j : Int)), (24, .int .u8 (t.toNat : Int)), (25, .bool true), (26, .bool true), (27, .slice (some ad) s.length cap), (28, .int .i64 ((k : Int) + (j : Int))), (29, .pointer (some (ad.add (k + j)))), (30, .int .u8 (c.toNat : Int)), (31, .string ⟨text.toArray⟩), (32, .int .i64 (j : Int)), (33, .int .u8 (t.toNat : Int)), (34, .bool false), (35, .bool false), (36, .bool false), (37, .bool false), (38, .string ⟨text.toArray⟩), (39, .int .i64 (j : Int)), (40, .int .u8 (t.toNat : Int)), (41, .bool false), (42, .bool false), (43, undef), (44, undef), (45, undef), (46, undef), (47, undef), (48, undef), (49, .bool false), (50, .bool false)] hd' hs' hB' (by simp) (by kernel_rfl) (by
           intro p hp; simp only [List.mem_cons, List.mem_nil_iff, or_false] at hp
           rcases hp with rfl | rfl | rfl | rfl | rfl | rfl | rfl | rfl | rfl | rfl | rfl | rfl | rfl | rfl | rfl | rfl | rfl | rfl | rfl | rfl | rfl | rfl | rfl | rfl | rfl | rfl | rfl | rfl | rfl | rfl | rfl | rfl | rfl | rfl
           · exact hP' 0 17 rfl
           · exact hP' 1 18 rfl
           · exact hP' 2 19 rfl
           · exact hP' 3 20 rfl
           · exact hP' 4 21 rfl
           · exact hP' 5 22 rfl
           · exact hP' 6 23 rfl
           · exact hP' 7 24 rfl
           · exact hP' 8 25 rfl
           · exact hP' 9 26 rfl
           · exact hP' 10 27 rfl
           · exact hP' 11 28 rfl
           · exact hP' 12 29 rfl
           · exact hP' 13 30 rfl
           · exact hP' 14 31 rfl
           · exact hP' 15 32 rfl
           · exact hP' 16 33 rfl
           · exact hP' 17 34 rfl
           · exact hP' 18 35 rfl
           · exact hP' 19 36 rfl
           · exact hP' 20 37 rfl
           · exact hP' 21 38 rfl
           · exact hP' 22 39 rfl
           · exact hP' 23 40 rfl
           · exact hP' 24 41 rfl
           · exact hP' 25 42 rfl
           · exact hP' 26 43 rfl
           · exact hP' 27 44 rfl
           · exact hP' 28 45 rfl
           · exact hP' 29 46 rfl
           · exact hP' 30 47 rfl
           · exact hP' 31 48 rfl
           · exact hP' 32 49 rfl
           · exact hP' 33 50 rfl)
          clear hB' hP' hs' hd'; simp only [List.foldl_cons, List.foldl_nil, List.setIfInBounds_toArray, List.set_cons_succ, List.set_cons_zero] at ha'; subst ha'; go_wp2; go_roundw
          case rel => exact ⟨j + 1, by go_num, by omega, hX.trans hE1, HRES.out⟩
          case measure => simp [intOf]; omega
        · have hres := HSTOP.out (by simp [misses, h35, hct]); have hm : min (k + j) s.length = k + j := by omega
          rw [hm] at hres; have HRES := Lib.hid hres; have hne : ((c.toNat : Int) == (t.toNat : Int)) = false := by
           rw [beq_eq_false_iff_ne]; intro e; exact hct (UInt8.toNat_inj.1 (by omega))
          clear hres h35 hct hm; go_wp2; refine wp_region_steps (fun _ => by kernel_rfl) [.is (.int .i64 ((k : Int) + (j : Int))), .is (.slice (some ad) s.length cap), .is (.int .i64 (s.length : Int)), .is (.bool false), .is (.bool false), .is (.string ⟨text.toArray⟩), .is (.int .i64 (j : Int)), .is (.int .u8 (t.toNat : Int)), .is (.bool true), .is (.bool true), .is (.slice (some ad) s.length cap), .is (.int .i64 ((k : Int) + (j : Int))), .is (.pointer (some (ad.add (k + j)))), .is (.int .u8 (c.toNat : Int)), .is (.string ⟨text.toArray⟩), .is (.int .i64 (j : Int)), .is (.int .u8 (t.toNat : Int)), .is (.bool true), .is (.bool true), .is (.bool true), .is (.bool true), .is (undef), .is (undef), .is (undef), .is (undef), .is (undef), .is (undef), .is (undef), .is (undef), .is (undef), .is (undef), .is (undef), .is (undef), .is (.bool true)] (by kernel_rfl) ?_ ?_
          · refine And.intro ?_ (And.intro ?_ (And.intro ?_ (And.intro ?_ (And.intro ?_ (And.intro ?_ (And.intro ?_ (And.intro ?_ (And.intro ?_ (And.intro ?_ (And.intro ?_ (And.intro ?_ (And.intro ?_ (And.intro ?_ (And.intro ?_ (And.intro ?_ (And.intro ?_ (And.intro ?_ (And.intro ?_ (And.intro ?_ (And.intro ?_ (And.intro ?_ (And.intro ?_ (And.intro ?_ (And.intro ?_ (And.intro ?_ (And.intro ?_ (And.intro ?_ (And.intro ?_ (And.intro ?_ (And.intro ?_ (And.intro ?_ (And.intro ?_ (And.intro ?_ (True.intro))))))))))))))))))))))))))))))))))
            · intro ρ w' hE hB hD; have e8 : ρ (.tmp 8) = _ := hB (.tmp 8) rfl; clear hB hD; refine .inl ⟨rfl, ?_⟩; unfold Gives; go_simp; first | done | exact xr0 | exact xr1
            · intro ρ w' hE hB hD; have e0 : ρ (.tmp 0) = _ := hB (.tmp 0) rfl; clear hB hD; refine .inl ⟨rfl, ?_⟩; unfold Gives; go_simp; first | done | exact xr0 | exact xr1
            · intro ρ w' hE hB hD; have e18 : ρ (.tmp 18) = .slice (some ad) s.length cap := hD 1 18 rfl rfl; clear hB hD; refine .inl ⟨rfl, ?_⟩; unfold Gives; go_simp; first | done | exact xr0 | exact xr1
            · intro ρ w' hE hB hD; have e17 : ρ (.tmp 17) = .int .i64 ((k : Int) + (j : Int)) := hD 0 17 rfl rfl; have e19 : ρ (.tmp 19) = .int .i64 (s.length : Int) := hD 2 19 rfl rfl; clear hB hD; refine .inl ⟨rfl, ?_⟩; unfold Gives; go_simp; exact ⟨Ext.refl _, congrArg Value.bool (by first | rfl | exact decide_eq_false (by omega) | exact decide_eq_true (by omega) | (simp only [bne, ht35]; done) | (simp only [bne, ht35]; rfl) | (simp only [bne, hne]; rfl) | simp [ht35])⟩
            · intro ρ w' hE hB hD; have e20 : ρ (.tmp 20) = .bool false := hD 3 20 rfl rfl; clear hB hD; refine .inl ⟨rfl, ?_⟩; unfold Gives; go_simp; first | done | exact xr0 | exact xr1
            · intro ρ w' hE hB hD; have e2 : ρ (.tmp 2) = _ := hB (.tmp 2) rfl; have e21 : ρ (.tmp 21) = .bool false := hD 4 21 rfl rfl; clear hB hD; refine .inl ⟨by simp [wantedBy, e21], ?_⟩; unfold Gives; go_simp; first | done | exact xr0 | exact xr1
            · intro ρ w' hE hB hD; have e7 : ρ (.tmp 7) = _ := hB (.tmp 7) rfl; have e21 : ρ (.tmp 21) = .bool false := hD 4 21 rfl rfl; clear hB hD; refine .inl ⟨by simp [wantedBy, e21], ?_⟩; unfold Gives; go_simp; first | done | exact xr0 | exact xr1
            · intro ρ w' hE hB hD; have e21 : ρ (.tmp 21) = .bool false := hD 4 21 rfl rfl; have e22 : ρ (.tmp 22) = .string ⟨text.toArray⟩ := hD 5 22 rfl rfl; have e23 : ρ (.tmp 23) = .int .i64 (j : Int) := hD 6 23 rfl rfl; clear hB hD; refine .inl ⟨by simp [wantedBy, e21], ?_⟩; unfold Gives; go_simp; first | done | exact xr0 | exact xr1
            · intro ρ w' hE hB hD; have ec := ctK hB
              have e21 : ρ (.tmp 21) = .bool false := hD 4 21 rfl rfl; have e24 : ρ (.tmp 24) = .int .u8 (t.toNat : Int) := hD 7 24 rfl rfl; clear hB hD; refine .inl ⟨by simp [wantedBy, e21], ?_⟩; unfold Gives; go_simp; exact ⟨Ext.refl _, congrArg Value.bool (by first | rfl | exact decide_eq_false (by omega) | exact decide_eq_true (by omega) | (simp only [bne, ht35]; done) | (simp only [bne, ht35]; rfl) | (simp only [bne, hne]; rfl) | simp [ht35])⟩
            · intro ρ w' hE hB hD; have e21 : ρ (.tmp 21) = .bool false := hD 4 21 rfl rfl; have e25 : ρ (.tmp 25) = .bool true := hD 8 25 rfl rfl; clear hB hD; refine .inl ⟨by simp [wantedBy, e21], ?_⟩; unfold Gives; go_simp; first | done | exact xr0 | exact xr1
            · intro ρ w' hE hB hD; have e0 : ρ (.tmp 0) = _ := hB (.tmp 0) rfl; have e26 : ρ (.tmp 26) = .bool true := hD 9 26 rfl rfl; clear hB hD; refine .inl ⟨by simp [wantedBy, e26], ?_⟩; unfold Gives; go_simp; first | done | exact xr0 | exact xr1
            · intro ρ w' hE hB hD; have e8 : ρ (.tmp 8) = _ := hB (.tmp 8) rfl; have e26 : ρ (.tmp 26) = .bool true := hD 9 26 rfl rfl; clear hB hD; refine .inl ⟨by simp [wantedBy, e26], ?_⟩; unfold Gives; go_simp; first | done | exact xr0 | exact xr1
            · intro ρ w' hE hB hD; have e26 : ρ (.tmp 26) = .bool true := hD 9 26 rfl rfl; have e27 : ρ (.tmp 27) = .slice (some ad) s.length cap := hD 10 27 rfl rfl; have e28 : ρ (.tmp 28) = .int .i64 ((k : Int) + (j : Int)) := hD 11 28 rfl rfl; clear hB hD; refine .inl ⟨by simp [wantedBy, e26], ?_⟩; unfold Gives; go_simp; first | done | exact xr0 | exact xr1
            · intro ρ w' hE hB hD; have q := hE.cellA HC.out; have e26 : ρ (.tmp 26) = .bool true := hD 9 26 rfl rfl; have e29 : ρ (.tmp 29) = .pointer (some (ad.add (k + j))) := hD 12 29 rfl rfl; clear hB hD; refine .inl ⟨by simp [wantedBy, e26], ?_⟩; unfold Gives; go_simp; first | done | exact xr0 | exact xr1
            · intro ρ w' hE hB hD; have e2 : ρ (.tmp 2) = _ := hB (.tmp 2) rfl; have e26 : ρ (.tmp 26) = .bool true := hD 9 26 rfl rfl; clear hB hD; refine .inl ⟨by simp [wantedBy, e26], ?_⟩; unfold Gives; go_simp; first | done | exact xr0 | exact xr1
            · intro ρ w' hE hB hD; have e7 : ρ (.tmp 7) = _ := hB (.tmp 7) rfl; have e26 : ρ (.tmp 26) = .bool true := hD 9 26 rfl rfl; clear hB hD; refine .inl ⟨by simp [wantedBy, e26], ?_⟩; unfold Gives; go_simp; first | done | exact xr0 | exact xr1
            · intro ρ w' hE hB hD; have e26 : ρ (.tmp 26) = .bool true := hD 9 26 rfl rfl; have e31 : ρ (.tmp 31) = .string ⟨text.toArray⟩ := hD 14 31 rfl rfl; have e32 : ρ (.tmp 32) = .int .i64 (j : Int) := hD 15 32 rfl rfl; clear hB hD; refine .inl ⟨by simp [wantedBy, e26], ?_⟩; unfold Gives; go_simp; first | done | exact xr0 | exact xr1
            · intro ρ w' hE hB hD; have e26 : ρ (.tmp 26) = .bool true := hD 9 26 rfl rfl; have e30 : ρ (.tmp 30) = .int .u8 (c.toNat : Int) := hD 13 30 rfl rfl; have e33 : ρ (.tmp 33) = .int .u8 (t.toNat : Int) := hD 16 33 rfl rfl; clear hB hD; refine .inl ⟨by simp [wantedBy, e26], ?_⟩; unfold Gives; go_simp; exact ⟨Ext.refl _, congrArg Value.bool (by first | rfl | exact decide_eq_false (by omega) | exact decide_eq_true (by omega) | (simp only [bne, ht35]; done) | (simp only [bne, ht35]; rfl) | (simp only [bne, hne]; rfl) | simp [ht35])⟩
            · intro ρ w' hE hB hD; have ec := ctK hB
              have e21 : ρ (.tmp 21) = .bool false := hD 4 21 rfl rfl; have e26 : ρ (.tmp 26) = .bool true := hD 9 26 rfl rfl; have e34 : ρ (.tmp 34) = .bool true := hD 17 34 rfl rfl; clear hB hD; refine .inl ⟨by simp [wantedBy, e21], ?_⟩; unfold Gives; go_simp; first | done | exact xr0 | exact xr1
            · intro ρ w' hE hB hD; have ec := ctK hB
              have e21 : ρ (.tmp 21) = .bool false := hD 4 21 rfl rfl; have e35 : ρ (.tmp 35) = .bool true := hD 18 35 rfl rfl; clear hB hD; refine .inl ⟨rfl, ?_⟩; unfold Gives; go_simp; first | done | exact xr0 | exact xr1
            · intro ρ w' hE hB hD; have e36 : ρ (.tmp 36) = .bool true := hD 19 36 rfl rfl; clear hB hD; refine .inl ⟨rfl, ?_⟩; unfold Gives; go_simp; first | done | exact xr0 | exact xr1
            · intro ρ w' hE hB hD; have e2 : ρ (.tmp 2) = _ := hB (.tmp 2) rfl; have e37 : ρ (.tmp 37) = .bool true := hD 20 37 rfl rfl; clear hB hD; exact .inr ⟨by first | (simp [wantedBy, e37]; done) | (simp [wantedBy, e37]; rfl), rfl⟩
            · intro ρ w' hE hB hD; have e7 : ρ (.tmp 7) = _ := hB (.tmp 7) rfl; have e37 : ρ (.tmp 37) = .bool true := hD 20 37 rfl rfl; clear hB hD; exact .inr ⟨by first | (simp [wantedBy, e37]; done) | (simp [wantedBy, e37]; rfl), rfl⟩
            · intro ρ w' hE hB hD; have e37 : ρ (.tmp 37) = .bool true := hD 20 37 rfl rfl; have e38 : ρ (.tmp 38) = undef := hD 21 38 rfl rfl; have e39 : ρ (.tmp 39) = undef := hD 22 39 rfl rfl; clear hB hD; exact .inr ⟨by first | (simp [wantedBy, e37]; done) | (simp [wantedBy, e37]; rfl), rfl⟩
            · intro ρ w' hE hB hD; have ec := ctK hB
              have e37 : ρ (.tmp 37) = .bool true := hD 20 37 rfl rfl; have e40 : ρ (.tmp 40) = undef := hD 23 40 rfl rfl; clear hB hD; exact .inr ⟨by first | (simp [wantedBy, e37]; done) | (simp [wantedBy, e37]; rfl), rfl⟩
            · intro ρ w' hE hB hD; have e37 : ρ (.tmp 37) = .bool true := hD 20 37 rfl rfl; have e41 : ρ (.tmp 41) = undef := hD 24 41 rfl rfl; clear hB hD; exact .inr ⟨by first | (simp [wantedBy, e37]; done) | (simp [wantedBy, e37]; rfl), rfl⟩
            · intro ρ w' hE hB hD; have e0 : ρ (.tmp 0) = _ := hB (.tmp 0) rfl; have e42 : ρ (.tmp 42) = undef := hD 25 42 rfl rfl; clear hB hD; exact .inr ⟨by first | (simp [wantedBy, e42]; done) | (simp [wantedBy, e42]; rfl), rfl⟩
            · intro ρ w' hE hB hD; have e8 : ρ (.tmp 8) = _ := hB (.tmp 8) rfl; have e42 : ρ (.tmp 42) = undef := hD 25 42 rfl rfl; clear hB hD; exact .inr ⟨by first | (simp [wantedBy, e42]; done) | (simp [wantedBy, e42]; rfl), rfl⟩
            · intro ρ w' hE hB hD; have e42 : ρ (.tmp 42) = undef := hD 25 42 rfl rfl; have e43 : ρ (.tmp 43) = undef := hD 26 43 rfl rfl; have e44 : ρ (.tmp 44) = undef := hD 27 44 rfl rfl; clear hB hD; exact .inr ⟨by first | (simp [wantedBy, e42]; done) | (simp [wantedBy, e42]; rfl), rfl⟩
            · intro ρ w' hE hB hD; have e42 : ρ (.tmp 42) = undef := hD 25 42 rfl rfl; have e45 : ρ (.tmp 45) = undef := hD 28 45 rfl rfl; clear hB hD; exact .inr ⟨by first | (simp [wantedBy, e42]; done) | (simp [wantedBy, e42]; rfl), rfl⟩
            · intro ρ w' hE hB hD; have hB0 := fun f => hB (.func f) rfl
              have e42 : ρ (.tmp 42) = undef := hD 25 42 rfl rfl; have e46 : ρ (.tmp 46) = undef := hD 29 46 rfl rfl; clear hB hD; exact .inr ⟨by first | (simp [wantedBy, e42]; done) | (simp [wantedBy, e42]; rfl), rfl⟩
            · intro ρ w' hE hB hD; have e42 : ρ (.tmp 42) = undef := hD 25 42 rfl rfl; have e47 : ρ (.tmp 47) = undef := hD 30 47 rfl rfl; clear hB hD; exact .inr ⟨by first | (simp [wantedBy, e42]; done) | (simp [wantedBy, e42]; rfl), rfl⟩
            · intro ρ w' hE hB hD; have ec := ctK hB
              have e37 : ρ (.tmp 37) = .bool true := hD 20 37 rfl rfl; have e42 : ρ (.tmp 42) = undef := hD 25 42 rfl rfl; have e48 : ρ (.tmp 48) = undef := hD 31 48 rfl rfl; clear hB hD; exact .inr ⟨by first | (simp [wantedBy, e37]; done) | (simp [wantedBy, e37]; rfl), rfl⟩
            · intro ρ w' hE hB hD; have ec := ctK hB
              have e37 : ρ (.tmp 37) = .bool true := hD 20 37 rfl rfl; have e49 : ρ (.tmp 49) = undef := hD 32 49 rfl rfl; clear hB hD; refine .inl ⟨rfl, ?_⟩; unfold Gives; go_simp; first | done | exact xr0 | exact xr1
          intro a' w1 hE1 hd' hs' hB' hP'; have ha' := act_of_posts [(17, .int .i64 ((k : Int) + (j : Int))), (18, .slice (some ad) s.length cap), (19, .int .i64 (s.length : Int)), (20, .bool false), (21, .bool false), (22, .string ⟨text.toArray⟩), (23, .int .i64 (j : Int)), (24, .int .u8 (t.toNat : Int)), (25, .bool true), (26, .bool true), (27, .slice (some ad) s.length cap), (28, .int .i64 ((k : Int) + (j : Int))), (29, .pointer (some (ad.add (k + j)))), (30, .int .u8 (c.toNat : Int)), (31, .string ⟨text.toArray⟩), (32, .int .i64 (j : Int)), (33, .int .u8 (t.toNat : Int)), (34, .bool true), (35, .bool true), (36, .bool true), (37, .bool true), (38, undef), (39, undef), (40, undef), (41, undef), (42, undef), (43, undef), (44, undef), (45, undef), (46, undef), (47, undef), (48, undef), (49, undef), (50, .bool true)] hd' hs' hB' (by simp) (by kernel_rfl) (by
           intro p hp; simp only [List.mem_cons, List.mem_nil_iff, or_false] at hp
           rcases hp with rfl | rfl | rfl | rfl | rfl | rfl | rfl | rfl | rfl | rfl | rfl | rfl | rfl | rfl | rfl | rfl | rfl | rfl | rfl | rfl | rfl | rfl | rfl | rfl | rfl | rfl | rfl | rfl | rfl | rfl | rfl | rfl | rfl | rfl
           · exact hP' 0 17 rfl
           · exact hP' 1 18 rfl
           · exact hP' 2 19 rfl
           · exact hP' 3 20 rfl
           · exact hP' 4 21 rfl
           · exact hP' 5 22 rfl
           · exact hP' 6 23 rfl
           · exact hP' 7 24 rfl
           · exact hP' 8 25 rfl
           · exact hP' 9 26 rfl
           · exact hP' 10 27 rfl
           · exact hP' 11 28 rfl
           · exact hP' 12 29 rfl
           · exact hP' 13 30 rfl
           · exact hP' 14 31 rfl
           · exact hP' 15 32 rfl
           · exact hP' 16 33 rfl
           · exact hP' 17 34 rfl
           · exact hP' 18 35 rfl
           · exact hP' 19 36 rfl
           · exact hP' 20 37 rfl
           · exact hP' 21 38 rfl
           · exact hP' 22 39 rfl
           · exact hP' 23 40 rfl
           · exact hP' 24 41 rfl
           · exact hP' 25 42 rfl
           · exact hP' 26 43 rfl
           · exact hP' 27 44 rfl
           · exact hP' 28 45 rfl
           · exact hP' 29 46 rfl
           · exact hP' 30 47 rfl
           · exact hP' 31 48 rfl
           · exact hP' 32 49 rfl
           · exact hP' 33 50 rfl)
          clear hB' hP' hs' hd'; simp only [List.foldl_cons, List.foldl_nil, List.setIfInBounds_toArray, List.set_cons_succ, List.set_cons_zero] at ha'; subst ha'; go_wp2; go_ret; refine ⟨?_, hX.trans hE1⟩; rw [HRES.out]; simp
          omega
    · have hin' : ¬ ((k : Int) + (j : Int)) < (s.length : Int) := by omega
      have hsome : s[k + j]? = none := by simp; omega
      rw [hsome] at HSTOP; have hres := HSTOP.out rfl; have hm : min (k + j) s.length = s.length := by omega
      rw [hm] at hres; have HRES := Lib.hid hres; clear hres hm hsome; go_wp2; refine wp_region_steps (fun _ => by kernel_rfl) [.is (.int .i64 ((k : Int) + (j : Int))), .is (.slice A s.length cap), .is (.int .i64 (s.length : Int)), .is (.bool true), .is (.bool true), .is (undef), .is (undef), .is (undef), .is (undef), .is (undef), .is (undef), .is (undef), .is (undef), .is (undef), .is (undef), .is (undef), .is (undef), .is (undef), .is (undef), .is (.bool true), .is (.bool true), .is (undef), .is (undef), .is (undef), .is (undef), .is (undef), .is (undef), .is (undef), .is (undef), .is (undef), .is (undef), .is (undef), .is (undef), .is (.bool true)] (by kernel_rfl) ?_ ?_
      · refine And.intro ?_ (And.intro ?_ (And.intro ?_ (And.intro ?_ (And.intro ?_ (And.intro ?_ (And.intro ?_ (And.intro ?_ (And.intro ?_ (And.intro ?_ (And.intro ?_ (And.intro ?_ (And.intro ?_ (And.intro ?_ (And.intro ?_ (And.intro ?_ (And.intro ?_ (And.intro ?_ (And.intro ?_ (And.intro ?_ (And.intro ?_ (And.intro ?_ (And.intro ?_ (And.intro ?_ (And.intro ?_ (And.intro ?_ (And.intro ?_ (And.intro ?_ (And.intro ?_ (And.intro ?_ (And.intro ?_ (And.intro ?_ (And.intro ?_ (And.intro ?_ (True.intro))))))))))))))))))))))))))))))))))
        · intro ρ w' hE hB hD; have e8 : ρ (.tmp 8) = _ := hB (.tmp 8) rfl; clear hB hD; refine .inl ⟨rfl, ?_⟩; unfold Gives; go_simp; first | done | exact xr0 | exact xr1
        · intro ρ w' hE hB hD; have e0 : ρ (.tmp 0) = _ := hB (.tmp 0) rfl; clear hB hD; refine .inl ⟨rfl, ?_⟩; unfold Gives; go_simp; first | done | exact xr0 | exact xr1
        · intro ρ w' hE hB hD; have e18 : ρ (.tmp 18) = .slice A s.length cap := hD 1 18 rfl rfl; clear hB hD; refine .inl ⟨rfl, ?_⟩; unfold Gives; go_simp; first | done | exact xr0 | exact xr1
        · intro ρ w' hE hB hD; have e17 : ρ (.tmp 17) = .int .i64 ((k : Int) + (j : Int)) := hD 0 17 rfl rfl; have e19 : ρ (.tmp 19) = .int .i64 (s.length : Int) := hD 2 19 rfl rfl; clear hB hD; refine .inl ⟨rfl, ?_⟩; unfold Gives; go_simp; exact ⟨Ext.refl _, congrArg Value.bool (by first | rfl | exact decide_eq_false (by omega) | exact decide_eq_true (by omega) | (simp only [bne, ht35]; done) | (simp only [bne, ht35]; rfl) | (simp only [bne, hne]; rfl) | simp [ht35])⟩
        · intro ρ w' hE hB hD; have e20 : ρ (.tmp 20) = .bool true := hD 3 20 rfl rfl; clear hB hD; refine .inl ⟨rfl, ?_⟩; unfold Gives; go_simp; first | done | exact xr0 | exact xr1
        · intro ρ w' hE hB hD; have e2 : ρ (.tmp 2) = _ := hB (.tmp 2) rfl; have e21 : ρ (.tmp 21) = .bool true := hD 4 21 rfl rfl; clear hB hD; exact .inr ⟨by first | (simp [wantedBy, e21]; done) | (simp [wantedBy, e21]; rfl), rfl⟩
        · intro ρ w' hE hB hD; have e7 : ρ (.tmp 7) = _ := hB (.tmp 7) rfl; have e21 : ρ (.tmp 21) = .bool true := hD 4 21 rfl rfl; clear hB hD; exact .inr ⟨by first | (simp [wantedBy, e21]; done) | (simp [wantedBy, e21]; rfl), rfl⟩
        · intro ρ w' hE hB hD; have e21 : ρ (.tmp 21) = .bool true := hD 4 21 rfl rfl; have e22 : ρ (.tmp 22) = undef := hD 5 22 rfl rfl; have e23 : ρ (.tmp 23) = undef := hD 6 23 rfl rfl; clear hB hD; exact .inr ⟨by first | (simp [wantedBy, e21]; done) | (simp [wantedBy, e21]; rfl), rfl⟩
        · intro ρ w' hE hB hD; have ec := ctK hB
          have e21 : ρ (.tmp 21) = .bool true := hD 4 21 rfl rfl; have e24 : ρ (.tmp 24) = undef := hD 7 24 rfl rfl; clear hB hD; exact .inr ⟨by first | (simp [wantedBy, e21]; done) | (simp [wantedBy, e21]; rfl), rfl⟩
        · intro ρ w' hE hB hD; have e21 : ρ (.tmp 21) = .bool true := hD 4 21 rfl rfl; have e25 : ρ (.tmp 25) = undef := hD 8 25 rfl rfl; clear hB hD; exact .inr ⟨by first | (simp [wantedBy, e21]; done) | (simp [wantedBy, e21]; rfl), rfl⟩
        · intro ρ w' hE hB hD; have e0 : ρ (.tmp 0) = _ := hB (.tmp 0) rfl; have e26 : ρ (.tmp 26) = undef := hD 9 26 rfl rfl; clear hB hD; exact .inr ⟨by first | (simp [wantedBy, e26]; done) | (simp [wantedBy, e26]; rfl), rfl⟩
        · intro ρ w' hE hB hD; have e8 : ρ (.tmp 8) = _ := hB (.tmp 8) rfl; have e26 : ρ (.tmp 26) = undef := hD 9 26 rfl rfl; clear hB hD; exact .inr ⟨by first | (simp [wantedBy, e26]; done) | (simp [wantedBy, e26]; rfl), rfl⟩
        · intro ρ w' hE hB hD; have e26 : ρ (.tmp 26) = undef := hD 9 26 rfl rfl; have e27 : ρ (.tmp 27) = undef := hD 10 27 rfl rfl; have e28 : ρ (.tmp 28) = undef := hD 11 28 rfl rfl; clear hB hD; exact .inr ⟨by first | (simp [wantedBy, e26]; done) | (simp [wantedBy, e26]; rfl), rfl⟩
        · intro ρ w' hE hB hD; have e26 : ρ (.tmp 26) = undef := hD 9 26 rfl rfl; have e29 : ρ (.tmp 29) = undef := hD 12 29 rfl rfl; clear hB hD; exact .inr ⟨by first | (simp [wantedBy, e26]; done) | (simp [wantedBy, e26]; rfl), rfl⟩
        · intro ρ w' hE hB hD; have e2 : ρ (.tmp 2) = _ := hB (.tmp 2) rfl; have e26 : ρ (.tmp 26) = undef := hD 9 26 rfl rfl; clear hB hD; exact .inr ⟨by first | (simp [wantedBy, e26]; done) | (simp [wantedBy, e26]; rfl), rfl⟩
        · intro ρ w' hE hB hD; have e7 : ρ (.tmp 7) = _ := hB (.tmp 7) rfl; have e26 : ρ (.tmp 26) = undef := hD 9 26 rfl rfl; clear hB hD; exact .inr ⟨by first | (simp [wantedBy, e26]; done) | (simp [wantedBy, e26]; rfl), rfl⟩
        · intro ρ w' hE hB hD; have e26 : ρ (.tmp 26) = undef := hD 9 26 rfl rfl; have e31 : ρ (.tmp 31) = undef := hD 14 31 rfl rfl; have e32 : ρ (.tmp 32) = undef := hD 15 32 rfl rfl; clear hB hD; exact .inr ⟨by first | (simp [wantedBy, e26]; done) | (simp [wantedBy, e26]; rfl), rfl⟩
        · intro ρ w' hE hB hD; have e26 : ρ (.tmp 26) = undef := hD 9 26 rfl rfl; have e30 : ρ (.tmp 30) = undef := hD 13 30 rfl rfl; have e33 : ρ (.tmp 33) = undef := hD 16 33 rfl rfl; clear hB hD; exact .inr ⟨by first | (simp [wantedBy, e26]; done) | (simp [wantedBy, e26]; rfl), rfl⟩
        · intro ρ w' hE hB hD; have ec := ctK hB
          have e21 : ρ (.tmp 21) = .bool true := hD 4 21 rfl rfl; have e26 : ρ (.tmp 26) = undef := hD 9 26 rfl rfl; have e34 : ρ (.tmp 34) = undef := hD 17 34 rfl rfl; clear hB hD; exact .inr ⟨by first | (simp [wantedBy, e21]; done) | (simp [wantedBy, e21]; rfl), rfl⟩
        · intro ρ w' hE hB hD; have ec := ctK hB
          have e21 : ρ (.tmp 21) = .bool true := hD 4 21 rfl rfl; have e35 : ρ (.tmp 35) = undef := hD 18 35 rfl rfl; clear hB hD; refine .inl ⟨rfl, ?_⟩; unfold Gives; go_simp; first | done | exact xr0 | exact xr1
        · intro ρ w' hE hB hD; have e36 : ρ (.tmp 36) = .bool true := hD 19 36 rfl rfl; clear hB hD; refine .inl ⟨rfl, ?_⟩; unfold Gives; go_simp; first | done | exact xr0 | exact xr1
        · intro ρ w' hE hB hD; have e2 : ρ (.tmp 2) = _ := hB (.tmp 2) rfl; have e37 : ρ (.tmp 37) = .bool true := hD 20 37 rfl rfl; clear hB hD; exact .inr ⟨by first | (simp [wantedBy, e37]; done) | (simp [wantedBy, e37]; rfl), rfl⟩
        · intro ρ w' hE hB hD; have e7 : ρ (.tmp 7) = _ := hB (.tmp 7) rfl; have e37 : ρ (.tmp 37) = .bool true := hD 20 37 rfl rfl; clear hB hD; exact .inr ⟨by first | (simp [wantedBy, e37]; done) | (simp [wantedBy, e37]; rfl), rfl⟩
        · intro ρ w' hE hB hD; have e37 : ρ (.tmp 37) = .bool true := hD 20 37 rfl rfl; have e38 : ρ (.tmp 38) = undef := hD 21 38 rfl rfl; have e39 : ρ (.tmp 39) = undef := hD 22 39 rfl rfl; clear hB hD; exact .inr ⟨by first | (simp [wantedBy, e37]; done) | (simp [wantedBy, e37]; rfl), rfl⟩
        · intro ρ w' hE hB hD; have ec := ctK hB
          have e37 : ρ (.tmp 37) = .bool true := hD 20 37 rfl rfl; have e40 : ρ (.tmp 40) = undef := hD 23 40 rfl rfl; clear hB hD; exact .inr ⟨by first | (simp [wantedBy, e37]; done) | (simp [wantedBy, e37]; rfl), rfl⟩
        · intro ρ w' hE hB hD; have e37 : ρ (.tmp 37) = .bool true := hD 20 37 rfl rfl; have e41 : ρ (.tmp 41) = undef := hD 24 41 rfl rfl; clear hB hD; exact .inr ⟨by first | (simp [wantedBy, e37]; done) | (simp [wantedBy, e37]; rfl), rfl⟩
        · intro ρ w' hE hB hD; have e0 : ρ (.tmp 0) = _ := hB (.tmp 0) rfl; have e42 : ρ (.tmp 42) = undef := hD 25 42 rfl rfl; clear hB hD; exact .inr ⟨by first | (simp [wantedBy, e42]; done) | (simp [wantedBy, e42]; rfl), rfl⟩
        · intro ρ w' hE hB hD; have e8 : ρ (.tmp 8) = _ := hB (.tmp 8) rfl; have e42 : ρ (.tmp 42) = undef := hD 25 42 rfl rfl; clear hB hD; exact .inr ⟨by first | (simp [wantedBy, e42]; done) | (simp [wantedBy, e42]; rfl), rfl⟩
        · intro ρ w' hE hB hD; have e42 : ρ (.tmp 42) = undef := hD 25 42 rfl rfl; have e43 : ρ (.tmp 43) = undef := hD 26 43 rfl rfl; have e44 : ρ (.tmp 44) = undef := hD 27 44 rfl rfl; clear hB hD; exact .inr ⟨by first | (simp [wantedBy, e42]; done) | (simp [wantedBy, e42]; rfl), rfl⟩
        · intro ρ w' hE hB hD; have e42 : ρ (.tmp 42) = undef := hD 25 42 rfl rfl; have e45 : ρ (.tmp 45) = undef := hD 28 45 rfl rfl; clear hB hD; exact .inr ⟨by first | (simp [wantedBy, e42]; done) | (simp [wantedBy, e42]; rfl), rfl⟩
        · intro ρ w' hE hB hD; have hB0 := fun f => hB (.func f) rfl
          have e42 : ρ (.tmp 42) = undef := hD 25 42 rfl rfl; have e46 : ρ (.tmp 46) = undef := hD 29 46 rfl rfl; clear hB hD; exact .inr ⟨by first | (simp [wantedBy, e42]; done) | (simp [wantedBy, e42]; rfl), rfl⟩
        · intro ρ w' hE hB hD; have e42 : ρ (.tmp 42) = undef := hD 25 42 rfl rfl; have e47 : ρ (.tmp 47) = undef := hD 30 47 rfl rfl; clear hB hD; exact .inr ⟨by first | (simp [wantedBy, e42]; done) | (simp [wantedBy, e42]; rfl), rfl⟩
        · intro ρ w' hE hB hD; have ec := ctK hB
          have e37 : ρ (.tmp 37) = .bool true := hD 20 37 rfl rfl; have e42 : ρ (.tmp 42) = undef := hD 25 42 rfl rfl; have e48 : ρ (.tmp 48) = undef := hD 31 48 rfl rfl; clear hB hD; exact .inr ⟨by first | (simp [wantedBy, e37]; done) | (simp [wantedBy, e37]; rfl), rfl⟩
        · intro ρ w' hE hB hD; have ec := ctK hB
          have e37 : ρ (.tmp 37) = .bool true := hD 20 37 rfl rfl; have e49 : ρ (.tmp 49) = undef := hD 32 49 rfl rfl; clear hB hD; refine .inl ⟨rfl, ?_⟩; unfold Gives; go_simp; first | done | exact xr0 | exact xr1
      intro a' w1 hE1 hd' hs' hB' hP'; have ha' := act_of_posts [(17, .int .i64 ((k : Int) + (j : Int))), (18, .slice A s.length cap), (19, .int .i64 (s.length : Int)), (20, .bool true), (21, .bool true), (22, undef), (23, undef), (24, undef), (25, undef), (26, undef), (27, undef), (28, undef), (29, undef), (30, undef), (31, undef), (32, undef), (33, undef), (34, undef), (35, undef), (36, .bool true), (37, .bool true), (38, undef), (39, undef), (40, undef), (41, undef), (42, undef), (43, undef), (44, undef), (45, undef), (46, undef), (47, undef), (48, undef), (49, undef), (50, .bool true)] hd' hs' hB' (by simp) (by kernel_rfl) (by
       intro p hp; simp only [List.mem_cons, List.mem_nil_iff, or_false] at hp
       rcases hp with rfl | rfl | rfl | rfl | rfl | rfl | rfl | rfl | rfl | rfl | rfl | rfl | rfl | rfl | rfl | rfl | rfl | rfl | rfl | rfl | rfl | rfl | rfl | rfl | rfl | rfl | rfl | rfl | rfl | rfl | rfl | rfl | rfl | rfl
       · exact hP' 0 17 rfl
       · exact hP' 1 18 rfl
       · exact hP' 2 19 rfl
       · exact hP' 3 20 rfl
       · exact hP' 4 21 rfl
       · exact hP' 5 22 rfl
       · exact hP' 6 23 rfl
       · exact hP' 7 24 rfl
       · exact hP' 8 25 rfl
       · exact hP' 9 26 rfl
       · exact hP' 10 27 rfl
       · exact hP' 11 28 rfl
       · exact hP' 12 29 rfl
       · exact hP' 13 30 rfl
       · exact hP' 14 31 rfl
       · exact hP' 15 32 rfl
       · exact hP' 16 33 rfl
       · exact hP' 17 34 rfl
       · exact hP' 18 35 rfl
       · exact hP' 19 36 rfl
       · exact hP' 20 37 rfl
       · exact hP' 21 38 rfl
       · exact hP' 22 39 rfl
       · exact hP' 23 40 rfl
       · exact hP' 24 41 rfl
       · exact hP' 25 42 rfl
       · exact hP' 26 43 rfl
       · exact hP' 27 44 rfl
       · exact hP' 28 45 rfl
       · exact hP' 29 46 rfl
       · exact hP' 30 47 rfl
       · exact hP' 31 48 rfl
       · exact hP' 32 49 rfl
       · exact hP' 33 50 rfl)
      clear hB' hP' hs' hd'; simp only [List.foldl_cons, List.foldl_nil, List.setIfInBounds_toArray, List.set_cons_succ, List.set_cons_zero] at ha'; subst ha'; go_wp2; go_ret; refine ⟨?_, hX.trans hE1⟩; rw [HRES.out]; simp
      omega
  · obtain rfl : j = text.length := by omega
    have e : R = -1 := by rw [← HD.out, List.drop_length]; rfl
    subst e; go_wp2; go_ret; exact ⟨rfl, hX⟩
end
section
open Go Go.RowKit
set_option maxHeartbeats 1000000
attribute [local go_sem] ba_get
@[irreducible] def cutA (A : Option Addr) (c lo : Nat) : Option Addr := if c = lo then A else A.map (·.add lo)
theorem Reads.cut {w : World} {A : Option Addr} {s : List UInt8} (h : Reads w A s) {n cap : Nat} (hc : s.length ≤ cap) : Reads w (cutA A cap n) (s.drop n) := by
 unfold cutA; exact h.drop hc
theorem conv_reads (w : World) (A : Option Addr) (s : List UInt8) (c : Nat) (h : Reads w A s) : (convert 25 9 (.slice A s.length c)).run Tryz.prog w = .ok (.string ⟨s.toArray⟩) w := by
 cases s with
 | nil =>
  rw [run_convert_bytes_string w 25 9 5 A ([] : List UInt8).length c Tryz.underlying25 Tryz.underlying5 Tryz.underlying9]; cases A with
  | none => rfl
  | some a => rfl
 | cons x s =>
  obtain ⟨ad, rfl, hc⟩ := h.is (by simp); exact run_convert_bytes_back w 25 9 5 ad c (x :: s) Tryz.underlying25 Tryz.underlying5 Tryz.underlying9 hc
def headSays (W w' : World) (e : Ending) : (Nat × Nat) ⊕ (Int × Int) → Prop
 | .inr f => ∃ v, e = .returned (.tuple #[.int .i64 0, .int .i64 0, .int .i64 0, v]) ∧ FaultAt W w' v f.1 f.2
 | .inl r => e = .returned (.tuple #[.int .i64 r.1, .int .i64 12, .int .i64 r.2, .pointer none])
theorem head_calls (s : List UInt8) (A : Option Addr) (cap : Nat) (w : World) (hE : Env w) (hs : s.length ≤ 140737488355328) (hcap : s.length ≤ cap) (hb : Reads w A s) :
 Calls Tryz.prog 47 #[.slice A s.length cap] w fun e w' => headSays w w' e (headTells s) ∧ Ext w w' := by
 have HENV := Lib.hid hE; have HB := Lib.hid hb; obtain ⟨R, hR⟩ : ∃ R, headTells s = R := ⟨_, rfl⟩
 rw [hR]; have HR := Lib.hid hR; obtain ⟨k, hk⟩ : ∃ k, differs s 0 headOf = k := ⟨_, rfl⟩
 have HK := Lib.hid hk; clear hE hb hR hk; go_enter Tryz.func47, Tryz.ntmps47
 go_wp2_with fail; refine (differs_calls s A cap 0 headOf _ hs (by omega) (by decide) HB.out).mono ?_; rw [HK.out]; rintro e w1 ⟨rfl, hE1⟩; by_cases hk0 : 0 ≤ k
 · have e : R = .inr (k, 40) := by rw [← HR.out]; unfold headTells; simp only [HK.out, if_pos hk0]
   have E := Lib.hid e; clear e; go_wp2_with fail; refine (fault_calls k 40 _).mono ?_; rintro e w2 ⟨⟨v, rfl, hv⟩, hE2⟩; have HV := Lib.hid (hv.more hE1); clear hv; go_wp2; refine bodyPost_ret (v := .tuple #[.int .i64 0, .int .i64 0, .int .i64 0, v]) (by simp [results, Tryz.results47, go_sem]) rfl ⟨?_, hE1.trans hE2⟩; rw [E.out]; exact ⟨v, rfl, HV.out⟩
 · have hr : R = (let n := digitsAt s 12
    if 1 < n ∧ s[12]? = some 48 then .inr (13, 40)
    else if 4 < n then .inr (16, 40)
    else if n = 0 ∨ 12 + n = s.length ∨ s[12 + n]? ≠ some 1 then .inr (((12 + n : Nat) : Int), 40)
    else .inl (natOf ((s.drop 12).take n), 12 + n + 1)) := by rw [← HR.out]; unfold headTells; simp only [HK.out, if_neg hk0]
   have HR2 := Lib.hid hr; clear hr HR; obtain ⟨n, hn⟩ : ∃ n, digitsAt s 12 = n := ⟨_, rfl⟩
   have hnle := digitsAt_le s 12; rw [hn] at hnle; have HN := Lib.hid hn; clear hn; have hE1' := hE1; have HB1 := Lib.hid (HB.out.ext hE1); go_wp2_with fail; refine (digits_calls s A cap 12 _ hs (by omega) HB1.out).mono ?_; rw [HN.out]; rintro e w' ⟨rfl, rfl⟩; by_cases h0 : n = 0
   · subst h0; have e : R = .inr (12, 40) := by rw [HR2.out, HN.out]; simp
     have E := Lib.hid e; clear e; go_wp2_with fail; refine (fault_calls (12) 40 _).mono ?_; rintro e w2 ⟨⟨v, rfl, hv⟩, hE2⟩; have HV := Lib.hid (hv.more hE1); clear hv; go_wp2; refine bodyPost_ret (v := .tuple #[.int .i64 0, .int .i64 0, .int .i64 0, v]) (by simp [results, Tryz.results47, go_sem]) rfl ⟨?_, hE1.trans hE2⟩; rw [E.out]; exact ⟨v, rfl, by simpa using HV.out⟩
   · have hlen : 12 + n ≤ s.length := by omega
     obtain ⟨ad, rfl, hc0⟩ := HB1.out.at (i := 12) (by omega)
     replace hc0 : w1.cell? ⟨ad.block, ad.off + 12, none⟩ = some (.int .u8 ((s[12]).toNat : Int)) := by simpa [Addr.add] using hc0
     have hs12 : s[12]? = some s[12] := List.getElem?_eq_getElem (by omega); rw [HN.out] at HR2; rw [hs12] at HR2; have hp1 : (1 : Int) ≤ n := by omega
     have hne0 : ((n : Int) == 0) = false := by rw [beq_eq_false_iff_ne]; omega
     have HS12 := Lib.hid hs12; clear hs12; generalize s[12] = c0 at *; have hn0 : ¬ n = 0 := h0; by_cases ha : 1 < n ∧ c0 = 48
     · have e : R = .inr (13, 40) := by rw [HR2.out, if_pos (by simpa using ha)]
       have E := Lib.hid e; obtain ⟨h1, rfl⟩ := ha; clear e HR2; go_wp2_with fail; refine (fault_calls (13) 40 _).mono ?_; rintro e w2 ⟨⟨v, rfl, hv⟩, hE2⟩; have HV := Lib.hid (hv.more hE1); clear hv; go_wp2; refine bodyPost_ret (v := .tuple #[.int .i64 0, .int .i64 0, .int .i64 0, v]) (by simp [results, Tryz.results47, go_sem]) rfl ⟨?_, hE1.trans hE2⟩; rw [E.out]; exact ⟨v, rfl, by simpa using HV.out⟩
     · have ha' : ¬ (1 < n ∧ some c0 = some (48 : UInt8)) := by simpa using ha
       rw [if_neg ha'] at HR2; have hcase : n ≤ 1 ∨ (1 < n ∧ ((c0.toNat : Int) == 48) = false) := by
        by_cases h1 : 1 < n
        · right
          refine ⟨h1, ?_⟩; rw [beq_eq_false_iff_ne]; intro e; exact ha ⟨h1, UInt8.toNat_inj.1 (by simpa using (by omega : c0.toNat = 48))⟩
        · left; omega
       have HZ : RowKit.Hid (¬ (1 < n ∧ s[12]? = some 48)) := Lib.hid (by rw [HS12.out]; exact ha'); clear ha ha'; by_cases h4 : 4 < n
       · have e : R = .inr (16, 40) := by rw [HR2.out, if_pos h4]
         have E := Lib.hid e; clear e HR2; rcases hcase with h1 | ⟨h1, h2⟩
         · omega
         go_wp2_with fail; refine (fault_calls (16) 40 _).mono ?_; rintro e w2 ⟨⟨v, rfl, hv⟩, hE2⟩; have HV := Lib.hid (hv.more hE1); clear hv; go_wp2; refine bodyPost_ret (v := .tuple #[.int .i64 0, .int .i64 0, .int .i64 0, v]) (by simp [results, Tryz.results47, go_sem]) rfl ⟨?_, hE1.trans hE2⟩; rw [E.out]; exact ⟨v, rfl, by simpa using HV.out⟩
       · rw [if_neg h4] at HR2; by_cases hend : 12 + n = s.length
         · have e : R = .inr (((12 + n : Nat) : Int), 40) := by rw [HR2.out, if_pos (.inr (.inl hend))]
           have E := Lib.hid e; have hend' : ((12 : Int) + (n : Int) == (s.length : Int)) = true := by rw [beq_iff_eq]; omega
           clear e HR2; rcases hcase with h1 | ⟨h1, h2⟩
           all_goals
            go_wp2_with fail; refine (fault_calls (12 + (n : Int)) 40 _).mono ?_; rintro e w2 ⟨⟨v, rfl, hv⟩, hE2⟩; have HV := Lib.hid (hv.more hE1); clear hv; go_wp2; refine bodyPost_ret (v := .tuple #[.int .i64 0, .int .i64 0, .int .i64 0, v]) (by simp [results, Tryz.results47, go_sem]) rfl ⟨?_, hE1.trans hE2⟩; rw [E.out]; exact ⟨v, rfl, by simpa using HV.out⟩
         · have hend' : ((12 : Int) + (n : Int) == (s.length : Int)) = false := by rw [beq_eq_false_iff_ne]; omega
           have hlt : 12 + n < s.length := by omega
           obtain ⟨ad', had, hc1⟩ := HB1.out.at hlt; cases had
           have hsn : s[12 + n]? = some s[12 + n] := List.getElem?_eq_getElem hlt; rw [hsn] at HR2; clear hsn; generalize s[12 + n] = c1 at *; by_cases hc : c1 = 1
           · have e : R = .inl (natOf ((s.drop 12).take n), 12 + n + 1) := by rw [HR2.out, if_neg (by simp [hc, h0, hend])]
             have E := Lib.hid e; subst hc; clear e HR2; obtain ⟨hpu, hle⟩ := head_number HN.out hn0 h4 HZ.out; have hrd : Reads w1 (some ⟨ad.block, ad.off + 12, none⟩) ((s.drop 12).take n) := by
              have h1 := (HB1.out.cut (n := 12) hcap).take n; unfold cutA at h1; rw [if_neg (by omega)] at h1; simpa [Addr.add] using h1
             have hlen2 : ((s.drop 12).take n).length = n := by rw [← HN.out]; exact (digits_piece s 12).2
             have hconv := conv_reads w1 (some ⟨ad.block, ad.off + 12, none⟩) ((s.drop 12).take n) (cap - 12) hrd; rw [hlen2] at hconv; have HPU := Lib.hid hpu; have HLE := Lib.hid hle; have HL2 := Lib.hid hlen2; clear hpu hle hrd hlen2; generalize (s.drop 12).take n = t at *; rcases hcase with h1 | ⟨h1, h2⟩
             all_goals
              go_wp2_with fail; refine (parseUint_calls t 9999 _ (by rw [HL2.out]; omega) (HENV.out.ext hE1)).mono ?_; rw [HPU.out]; rintro e w2 ⟨rfl, hE2⟩; have hv := HLE.out; generalize natOf t = v at *; go_wp2; refine bodyPost_ret (v := .tuple #[.int .i64 v, .int .i64 12, .int .i64 (12 + (n : Int) + 1), .pointer none]) (by simp [results, Tryz.results47, go_sem]) rfl ⟨?_, hE1.trans hE2⟩; rw [E.out]; simp [headSays]
           · have e : R = .inr (((12 + n : Nat) : Int), 40) := by rw [HR2.out, if_pos (.inr (.inr (by simpa using hc)))]
             have E := Lib.hid e; have hc' : ((c1.toNat : Int) == 1) = false := by
              rw [beq_eq_false_iff_ne]; intro e; exact hc (UInt8.toNat_inj.1 (by simpa using (by omega : c1.toNat = 1)))
             clear e HR2; rcases hcase with h1 | ⟨h1, h2⟩
             all_goals
              go_wp2_with fail; refine (fault_calls (12 + (n : Int)) 40 _).mono ?_; rintro e w2 ⟨⟨v, rfl, hv⟩, hE2⟩; have HV := Lib.hid (hv.more hE1); clear hv; go_wp2; refine bodyPost_ret (v := .tuple #[.int .i64 0, .int .i64 0, .int .i64 0, v]) (by simp [results, Tryz.results47, go_sem]) rfl ⟨?_, hE1.trans hE2⟩; rw [E.out]; exact ⟨v, rfl, by simpa using HV.out⟩
end
end Go.Proofs.YtdmjinlgdkgoiaaGreatDoor
