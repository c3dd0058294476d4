/- Of the layer fix: ParseStamp, Form, Form2, Form3, Form4. -/
import Derived.Test.YtdmjinlgdkgoiaaGreatDoorFeAf
import Derived.Test.YtdmjinlgdkgoiaaGreatDoorFeAl
import Derived.Test.YtdmjinlgdkgoiaaGreatDoorFeAn
import Derived.Test.YtdmjinlgdkgoiaaGreatDoorFeAo
import Derived.Laws.EntriesVeiled
import Derived.Deep.QuietTactic
import Derived.BigQuiet
set_option linter.unusedVariables false
set_option linter.unusedSimpArgs false
set_option maxRecDepth 100000
namespace Go.Proofs.YtdmjinlgdkgoiaaGreatDoor
section
open Go Go.RowKit
set_option maxHeartbeats 6400000
attribute [local go_sem] ba_get
theorem ba_extract (l : List UInt8) (a b : Nat) : (ByteArray.mk l.toArray).extract a b = ByteArray.mk ((l.drop a).take (b - a)).toArray := by
 apply ByteArray.ext
 simp [ByteArray.data_extract]
theorem readOf_range {s : List UInt8} (h : s.length ≤ 8) : -1 ≤ readOf s ∧ readOf s ≤ 99999999 := by
 unfold readOf; split
 · rename_i hd
   have := natOf_lt hd; have : 10 ^ s.length ≤ 10 ^ 8 := Nat.pow_le_pow_right (by omega) h; omega
 · omega
theorem byte_ne (a : UInt8) (n : Nat) (k : Int) (hk : k = n) (hn : n < 256) : (((a.toNat : Int) != k) = true ∧ a ≠ UInt8.ofNat n) ∨ (((a.toNat : Int) != k) = false ∧ a = UInt8.ofNat n) := by
 subst hk; by_cases h : a.toNat = n
 · right
   refine ⟨by simp [h], ?_⟩; rw [← h]; simp
 · left
   refine ⟨by simp; omega, ?_⟩; rintro rfl; rw [toNat_ofNat n hn] at h; exact h rfl
def okAt (b : Bool) (l : List Bool) (k : Nat) : Bool := b && (l.take k).all id
theorem okAt_succ {b : Bool} {l : List Bool} {k : Nat} {c : Bool} (h : l[k]? = some c) : okAt b l (k + 1) = (okAt b l k && c) := by
 unfold okAt; obtain ⟨hk, rfl⟩ := List.getElem?_eq_some_iff.1 h; rw [List.take_succ_eq_append_getElem hk, List.all_append]; simp [Bool.and_assoc]
theorem stamp_lens {L : List UInt8} (h : L.length = 21) : (L.take 8).length = 8 ∧ ((L.drop 9).take 2).length = 2 ∧ ((L.drop 12).take 2).length = 2 ∧ ((L.drop 15).take 2).length = 2 ∧ (L.drop 18).length = 3 := by
 simp only [List.length_take, List.length_drop, h]; decide
theorem parseStamp_calls (s0 : List UInt8) (w : World) (hs : s0.length ≤ 140737488355328) :
 Calls Tryz.prog 264 #[.string ⟨s0.toArray⟩] w fun e w' => e = .returned (.tuple #[.int .i64 (parseStamp s0).1, .int .i64 (parseStamp s0).2]) ∧ Ext w w' := by
 obtain ⟨r, hr⟩ : ∃ r, parseStamp s0 = r := ⟨_, rfl⟩
 rw [hr]; unfold parseStamp at hr; obtain ⟨L, hL⟩ : ∃ L, longStamp s0 = L := ⟨_, rfl⟩
 simp only [hL] at hr; have HR := Lib.hid hr; clear hr; unfold longStamp at hL; have hpre : (((s0.length : Int) == 17) = true ∧ ByteArray.mk s0.toArray ++ ByteArray.mk #[46, 48, 48, 48] = ByteArray.mk L.toArray) ∨ (((s0.length : Int) == 17) = false ∧ L = s0) := by
  by_cases h : s0.length = 17
  · left
    rw [if_pos h] at hL; refine ⟨by simp; omega, ?_⟩; rw [← hL]; exact ba_append s0 zeroMs
  · right
    rw [if_neg h] at hL; exact ⟨by simp; omega, hL.symm⟩
 have hLl : L.length ≤ 140737488355328 := by
  rw [← hL]; split
  · rename_i h; simp [h, zeroMs]
  · exact hs
 clear hL; rcases hpre with ⟨h17, hcat⟩ | ⟨h17, rfl⟩
 all_goals
  by_cases h21 : L.length = 21
  case neg =>
   have hne : ((L.length : Int) != 21) = true := by simp; omega
   have e : r = (0, 20) := by
    rw [← HR.out]; have : marked L = false := by unfold marked; simp [h21]
    rw [this]; rfl
   subst e; clear HR h21; go_enter Tryz.func264, Tryz.ntmps264
   go_wp2; go_ret2; exact ⟨rfl, Ext.refl _⟩
  have hne : ((L.length : Int) != 21) = false := by simp; omega
  obtain ⟨l1, l2, l3, l4, l5⟩ := stamp_lens h21; have x1 : (ByteArray.mk L.toArray).extract 0 8 = ByteArray.mk (L.take 8).toArray := by rw [ba_extract]; rfl
  have x2 : (ByteArray.mk L.toArray).extract 9 11 = ByteArray.mk ((L.drop 9).take 2).toArray := ba_extract L 9 11; have x3 : (ByteArray.mk L.toArray).extract 12 14 = ByteArray.mk ((L.drop 12).take 2).toArray := ba_extract L 12 14; have x4 : (ByteArray.mk L.toArray).extract 15 17 = ByteArray.mk ((L.drop 15).take 2).toArray := ba_extract L 15 17; have x5 : (ByteArray.mk L.toArray).extract 18 L.length = ByteArray.mk (L.drop 18).toArray := by
   rw [ba_extract, List.take_of_length_le (by simp)]
  have b1 : 8 < L.length := by omega
  have b2 : 11 < L.length := by omega
  have b3 : 14 < L.length := by omega
  have b4 : 17 < L.length := by omega
  have b5 : 18 ≤ L.length := by omega
  have k1 : (8 : Int) ≤ (L.length : Int) := by omega
  have k2 : (11 : Int) ≤ (L.length : Int) := by omega
  have k3 : (14 : Int) ≤ (L.length : Int) := by omega
  have k4 : (17 : Int) ≤ (L.length : Int) := by omega
  have k5 : (18 : Int) ≤ (L.length : Int) := by omega
  have i1 : (8 : Int) < (L.length : Int) := by omega
  have i2 : (11 : Int) < (L.length : Int) := by omega
  have i3 : (14 : Int) < (L.length : Int) := by omega
  have i4 : (17 : Int) < (L.length : Int) := by omega
  have hm : marked L = (L[8] == 45 && L[11] == 58 && L[14] == 58 && L[17] == 46) := by
   unfold marked; rw [List.getElem?_eq_getElem b1, List.getElem?_eq_getElem b2, List.getElem?_eq_getElem b3, List.getElem?_eq_getElem b4]; simp [h21]
  have HR2 := HR.out; rw [hm] at HR2; have HR3 := Lib.hid HR2; clear HR HR2 hm h21; generalize L.take 8 = A at *; generalize (L.drop 9).take 2 = B at *; generalize (L.drop 12).take 2 = C at *; generalize (L.drop 15).take 2 = E at *; generalize L.drop 18 = G at *; rcases byte_ne L[8] 45 45 rfl (by decide) with ⟨m8, n8⟩ | ⟨m8, n8⟩
  case inl =>
   have e : r = (0, 20) := by
    rw [← HR3.out, if_pos]; have : (L[8] == 45) = false := by simpa using n8
    rw [this]; rfl
   subst e; clear HR3 n8; go_enter Tryz.func264, Tryz.ntmps264
   go_wp2; go_ret2; exact ⟨rfl, Ext.refl _⟩
  rcases byte_ne L[11] 58 58 rfl (by decide) with ⟨m11, n11⟩ | ⟨m11, n11⟩
  case inl =>
   have e : r = (0, 20) := by
    rw [← HR3.out, if_pos]; have : (L[11] == 58) = false := by simpa using n11
    rw [this]; simp
   subst e; clear HR3 n8 n11; go_enter Tryz.func264, Tryz.ntmps264
   go_wp2; go_ret2; exact ⟨rfl, Ext.refl _⟩
  rcases byte_ne L[14] 58 58 rfl (by decide) with ⟨m14, n14⟩ | ⟨m14, n14⟩
  case inl =>
   have e : r = (0, 20) := by
    rw [← HR3.out, if_pos]; have : (L[14] == 58) = false := by simpa using n14
    rw [this]; simp
   subst e; clear HR3 n8 n11 n14; go_enter Tryz.func264, Tryz.ntmps264
   go_wp2; go_ret2; exact ⟨rfl, Ext.refl _⟩
  rcases byte_ne L[17] 46 46 rfl (by decide) with ⟨m17, n17⟩ | ⟨m17, n17⟩
  case inl =>
   have e : r = (0, 20) := by
    rw [← HR3.out, if_pos]; have : (L[17] == 46) = false := by simpa using n17
    rw [this]; simp
   subst e; clear HR3 n8 n11 n14 n17; go_enter Tryz.func264, Tryz.ntmps264
   go_wp2; go_ret2; exact ⟨rfl, Ext.refl _⟩
  have hr := HR3.out; rw [n8, n11, n14, n17, if_neg (by decide)] at hr; have HR := Lib.hid hr; clear HR3 n8 n11 n14 n17 hr; obtain ⟨ra1, ra2⟩ := readOf_range (s := A) (by omega); obtain ⟨rb1, rb2⟩ := readOf_range (s := B) (by omega); obtain ⟨rc1, rc2⟩ := readOf_range (s := C) (by omega); obtain ⟨re1, re2⟩ := readOf_range (s := E) (by omega); obtain ⟨rg1, rg2⟩ := readOf_range (s := G) (by omega); have HRA := Lib.hid fun w1 => read_calls A w1 (by omega)
  have HNU := Lib.hid fun w1 => number_calls (readOf A) w1 (by omega)
  have HL := Lib.hid (And.intro l2 (And.intro l3 (And.intro l4 l5))); obtain ⟨d, hd⟩ : ∃ d, dayOf (readOf A) = d := ⟨_, rfl⟩
  rw [hd] at HNU HR; have HD := Lib.hid hd; have hdr : 0 ≤ d.getD 0 ∧ d.getD 0 ≤ 3000000 := by
   cases d with
   | none => exact ⟨Int.le_refl _, by decide⟩
   | some n => exact dayOf_bound hd
  clear l1 l2 l3 l4 l5 hd; generalize readOf A = a at *; go_enter Tryz.func264, Tryz.ntmps264
  go_wp2_with fail; refine (HRA.out _).mono ?_; rintro e w1 ⟨rfl, hE1⟩; go_wp2_with fail; refine (HNU.out _).mono ?_; rintro e w2 ⟨rfl, hE2⟩; unfold dayV; obtain ⟨b0, hb0⟩ : ∃ b, d.isSome = b := ⟨_, rfl⟩
  rw [hb0]; have HB0 := Lib.hid hb0; clear hb0; go_wp2_with fail; have HLB := HL.out.1; have HLC := HL.out.2.1; have HLE := HL.out.2.2.1; have HLG := HL.out.2.2.2; refine wp_region_steps (fun _ => by kernel_rfl) [.is (.string ⟨L.toArray⟩), .is (.string ⟨B.toArray⟩), .is (.int .i64 (readOf B)), .is (.string ⟨L.toArray⟩), .is (.string ⟨C.toArray⟩), .is (.int .i64 (readOf C)), .is (.string ⟨L.toArray⟩), .is (.string ⟨E.toArray⟩), .is (.int .i64 (readOf E)), .is (.string ⟨L.toArray⟩), .is (.string ⟨G.toArray⟩), .is (.int .i64 (readOf G)), .is (.int .i64 (readOf B)), .is (.int .i64 (readOf C)), .is (.int .i64 (readOf E)), .is (.int .i64 (readOf G))] (by kernel_rfl) ?_ ?_
  · refine And.intro ?_ (And.intro ?_ (And.intro ?_ (And.intro ?_ (And.intro ?_ (And.intro ?_ (And.intro ?_ (And.intro ?_ (And.intro ?_ (And.intro ?_ (And.intro ?_ (And.intro ?_ (And.intro ?_ (And.intro ?_ (And.intro ?_ (And.intro ?_ (True.intro))))))))))))))))
    · intro ρ w' hE hB hD; have e0 : ρ (.tmp 0) = _ := hB (.tmp 0) rfl; clear hB hD; refine .inl ⟨rfl, ?_⟩; unfold Gives; go_simp; first | done | exact xr0 | exact xr1
    · intro ρ w' hE hB hD; have ec := ctK hB
      have e47 : ρ (.tmp 47) = .string ⟨L.toArray⟩ := hD 0 47 rfl rfl; clear hB hD; refine .inl ⟨rfl, ?_⟩; unfold Gives; go_simp; first | done | exact xr0 | exact xr1
    · intro ρ w' hE hB hD; have hB0 := fun f => hB (.func f) rfl
      have e48 : ρ (.tmp 48) = .string ⟨B.toArray⟩ := hD 1 48 rfl rfl; clear hB hD; refine .inl ⟨rfl, ?_⟩; refine gives_call ent_clock_read (hB0 _) ?_; simp only [List.map_cons, List.map_nil, e48]; refine (read_calls B w' (by omega)).mono ?_; rintro e w1 ⟨rfl, hE1⟩; exact ⟨_, rfl, hE1, rfl⟩
    · intro ρ w' hE hB hD; have e0 : ρ (.tmp 0) = _ := hB (.tmp 0) rfl; clear hB hD; refine .inl ⟨rfl, ?_⟩; unfold Gives; go_simp; first | done | exact xr0 | exact xr1
    · intro ρ w' hE hB hD; have ec := ctK hB
      have e50 : ρ (.tmp 50) = .string ⟨L.toArray⟩ := hD 3 50 rfl rfl; clear hB hD; refine .inl ⟨rfl, ?_⟩; unfold Gives; go_simp; first | done | exact xr0 | exact xr1
    · intro ρ w' hE hB hD; have hB0 := fun f => hB (.func f) rfl
      have e51 : ρ (.tmp 51) = .string ⟨C.toArray⟩ := hD 4 51 rfl rfl; clear hB hD; refine .inl ⟨rfl, ?_⟩; refine gives_call ent_clock_read (hB0 _) ?_; simp only [List.map_cons, List.map_nil, e51]; refine (read_calls C w' (by omega)).mono ?_; rintro e w1 ⟨rfl, hE1⟩; exact ⟨_, rfl, hE1, rfl⟩
    · intro ρ w' hE hB hD; have e0 : ρ (.tmp 0) = _ := hB (.tmp 0) rfl; clear hB hD; refine .inl ⟨rfl, ?_⟩; unfold Gives; go_simp; first | done | exact xr0 | exact xr1
    · intro ρ w' hE hB hD; have ec := ctK hB
      have e53 : ρ (.tmp 53) = .string ⟨L.toArray⟩ := hD 6 53 rfl rfl; clear hB hD; refine .inl ⟨rfl, ?_⟩; unfold Gives; go_simp; first | done | exact xr0 | exact xr1
    · intro ρ w' hE hB hD; have hB0 := fun f => hB (.func f) rfl
      have e54 : ρ (.tmp 54) = .string ⟨E.toArray⟩ := hD 7 54 rfl rfl; clear hB hD; refine .inl ⟨rfl, ?_⟩; refine gives_call ent_clock_read (hB0 _) ?_; simp only [List.map_cons, List.map_nil, e54]; refine (read_calls E w' (by omega)).mono ?_; rintro e w1 ⟨rfl, hE1⟩; exact ⟨_, rfl, hE1, rfl⟩
    · intro ρ w' hE hB hD; have e0 : ρ (.tmp 0) = _ := hB (.tmp 0) rfl; clear hB hD; refine .inl ⟨rfl, ?_⟩; unfold Gives; go_simp; first | done | exact xr0 | exact xr1
    · intro ρ w' hE hB hD; have ec := ctK hB
      have e56 : ρ (.tmp 56) = .string ⟨L.toArray⟩ := hD 9 56 rfl rfl; clear hB hD; refine .inl ⟨rfl, ?_⟩; unfold Gives; go_simp; first | done | exact xr0 | exact xr1
    · intro ρ w' hE hB hD; have hB0 := fun f => hB (.func f) rfl
      have e57 : ρ (.tmp 57) = .string ⟨G.toArray⟩ := hD 10 57 rfl rfl; clear hB hD; refine .inl ⟨rfl, ?_⟩; refine gives_call ent_clock_read (hB0 _) ?_; simp only [List.map_cons, List.map_nil, e57]; refine (read_calls G w' (by omega)).mono ?_; rintro e w1 ⟨rfl, hE1⟩; exact ⟨_, rfl, hE1, rfl⟩
    · intro ρ w' hE hB hD; have e49 : ρ (.tmp 49) = .int .i64 (readOf B) := hD 2 49 rfl rfl; clear hB hD; refine .inl ⟨rfl, ?_⟩; unfold Gives; go_simp; first | done | exact xr0 | exact xr1
    · intro ρ w' hE hB hD; have e52 : ρ (.tmp 52) = .int .i64 (readOf C) := hD 5 52 rfl rfl; clear hB hD; refine .inl ⟨rfl, ?_⟩; unfold Gives; go_simp; first | done | exact xr0 | exact xr1
    · intro ρ w' hE hB hD; have e55 : ρ (.tmp 55) = .int .i64 (readOf E) := hD 8 55 rfl rfl; clear hB hD; refine .inl ⟨rfl, ?_⟩; unfold Gives; go_simp; first | done | exact xr0 | exact xr1
    · intro ρ w' hE hB hD; have e58 : ρ (.tmp 58) = .int .i64 (readOf G) := hD 11 58 rfl rfl; clear hB hD; refine .inl ⟨rfl, ?_⟩; unfold Gives; go_simp; first | done | exact xr0 | exact xr1
  · intro a' w3 hE3 hd' hs' hB' hP'; have ha' := act_of_posts [(47, .string ⟨L.toArray⟩), (48, .string ⟨B.toArray⟩), (49, .int .i64 (readOf B)), (50, .string ⟨L.toArray⟩), (51, .string ⟨C.toArray⟩), (52, .int .i64 (readOf C)), (53, .string ⟨L.toArray⟩), (54, .string ⟨E.toArray⟩), (55, .int .i64 (readOf E)), (56, .string ⟨L.toArray⟩), (57, .string ⟨G.toArray⟩), (58, .int .i64 (readOf G)), (6, .int .i64 (readOf B)), (7, .int .i64 (readOf C)), (8, .int .i64 (readOf E)), (9, .int .i64 (readOf G))] hd' hs' hB' (by simp) (by kernel_rfl) (by
     intro p hp; simp only [List.mem_cons, List.mem_nil_iff, or_false] at hp
     rcases hp with rfl | rfl | rfl | rfl | rfl | rfl | rfl | rfl | rfl | rfl | rfl | rfl | rfl | rfl | rfl | rfl
     · exact hP' 0 47 rfl
     · exact hP' 1 48 rfl
     · exact hP' 2 49 rfl
     · exact hP' 3 50 rfl
     · exact hP' 4 51 rfl
     · exact hP' 5 52 rfl
     · exact hP' 6 53 rfl
     · exact hP' 7 54 rfl
     · exact hP' 8 55 rfl
     · exact hP' 9 56 rfl
     · exact hP' 10 57 rfl
     · exact hP' 11 58 rfl
     · exact hP' 12 6 rfl
     · exact hP' 13 7 rfl
     · exact hP' 14 8 rfl
     · exact hP' 15 9 rfl)
    clear hB' hP' hs' hd'; simp only [List.foldl_cons, List.foldl_nil, List.setIfInBounds_toArray, List.set_cons_succ, List.set_cons_zero] at ha'; subst ha'; have hX : Ext w w3 := hE1.trans (hE2.trans hE3); clear HLB HLC HLE HLG x1 x2 x3 x4 x5; generalize readOf B = xb at *; generalize readOf C = xc at *; generalize readOf E = xe at *; generalize readOf G = xg at *; have j0 : ∀ w, (Instr.index 293 (.agg #[.int .i64 xb, .int .i64 23, .int .i64 xc, .int .i64 59, .int .i64 xe, .int .i64 59, .int .i64 xg, .int .i64 999]) (.int .i64 0)).run Tryz.prog w = .ok (.agg #[.int .i64 xb, .int .i64 23]) w := fun _ => by kernel_rfl
    have j1 : ∀ w, (Instr.index 293 (.agg #[.int .i64 xb, .int .i64 23, .int .i64 xc, .int .i64 59, .int .i64 xe, .int .i64 59, .int .i64 xg, .int .i64 999]) (.int .i64 1)).run Tryz.prog w = .ok (.agg #[.int .i64 xc, .int .i64 59]) w := fun _ => by kernel_rfl
    have j2 : ∀ w, (Instr.index 293 (.agg #[.int .i64 xb, .int .i64 23, .int .i64 xc, .int .i64 59, .int .i64 xe, .int .i64 59, .int .i64 xg, .int .i64 999]) (.int .i64 2)).run Tryz.prog w = .ok (.agg #[.int .i64 xe, .int .i64 59]) w := fun _ => by kernel_rfl
    have j3 : ∀ w, (Instr.index 293 (.agg #[.int .i64 xb, .int .i64 23, .int .i64 xc, .int .i64 59, .int .i64 xe, .int .i64 59, .int .i64 xg, .int .i64 999]) (.int .i64 3)).run Tryz.prog w = .ok (.agg #[.int .i64 xg, .int .i64 999]) w := fun _ => by kernel_rfl
    obtain ⟨ws, hws⟩ : ∃ ws, [within xb 23, within xc 59, within xe 59, within xg 999] = ws := ⟨_, rfl⟩
    have HWS := Lib.hid hws; clear hws; go_wp2_with fail; go_loopw [5, 68] (fun ok i wr => ∃ k : Nat, k ≤ 4 ∧ i = .int .i64 k ∧ ok = .bool (okAt b0 ws k) ∧ Ext w wr) (fun _ i _ => 4 - (intOf i).toNat)
    case atStart => exact ⟨0, by omega, rfl, by simp [okAt], hX⟩
    case round =>
     obtain ⟨k, hk, rfl, rfl, hE⟩ := hrel; have HEE := Lib.hid hE; clear hE; by_cases hlt : k < 4
     · have hk4 : k = 0 ∨ k = 1 ∨ k = 2 ∨ k = 3 := by omega
       clear hk hlt; rcases hk4 with rfl | rfl | rfl | rfl
       · have hw : ws[0]? = some (within xb 23) := by rw [← HWS.out]; rfl
         have HS := Lib.hid (okAt_succ (b := b0) hw); clear hw; obtain ⟨o, ho⟩ : ∃ o, okAt b0 ws 0 = o := ⟨_, rfl⟩
         rw [ho] at HS; simp only [ho]; cases o with
         | false =>
          go_wp2; go_roundw
          case rel => exact ⟨1, by omega, rfl, by rw [HS.out]; rfl, HEE.out.alloc _⟩
          case measure => simp [intOf]
         | true =>
          by_cases g0 : 0 ≤ xb
          · by_cases g1 : xb ≤ 23
            · go_wp2; go_roundw
              case rel => exact ⟨1, by omega, rfl, by rw [HS.out]; simp [within, g0, g1], HEE.out.alloc _⟩
              case measure => simp [intOf]
            · go_wp2; go_roundw
              case rel => exact ⟨1, by omega, rfl, by rw [HS.out]; simp [within, g0, g1], HEE.out.alloc _⟩
              case measure => simp [intOf]
          · have g0' : decide (0 ≤ xb) = false := by simpa using g0
            go_wp2; go_roundw
            case rel => exact ⟨1, by omega, rfl, by rw [HS.out]; simp [within, g0], HEE.out.alloc _⟩
            case measure => simp [intOf]
       · have hw : ws[1]? = some (within xc 59) := by rw [← HWS.out]; rfl
         have HS := Lib.hid (okAt_succ (b := b0) hw); clear hw; obtain ⟨o, ho⟩ : ∃ o, okAt b0 ws 1 = o := ⟨_, rfl⟩
         rw [ho] at HS; simp only [ho]; cases o with
         | false =>
          go_wp2; go_roundw
          case rel => exact ⟨2, by omega, rfl, by rw [HS.out]; rfl, HEE.out.alloc _⟩
          case measure => simp [intOf]
         | true =>
          by_cases g0 : 0 ≤ xc
          · by_cases g1 : xc ≤ 59
            · go_wp2; go_roundw
              case rel => exact ⟨2, by omega, rfl, by rw [HS.out]; simp [within, g0, g1], HEE.out.alloc _⟩
              case measure => simp [intOf]
            · go_wp2; go_roundw
              case rel => exact ⟨2, by omega, rfl, by rw [HS.out]; simp [within, g0, g1], HEE.out.alloc _⟩
              case measure => simp [intOf]
          · have g0' : decide (0 ≤ xc) = false := by simpa using g0
            go_wp2; go_roundw
            case rel => exact ⟨2, by omega, rfl, by rw [HS.out]; simp [within, g0], HEE.out.alloc _⟩
            case measure => simp [intOf]
       · have hw : ws[2]? = some (within xe 59) := by rw [← HWS.out]; rfl
         have HS := Lib.hid (okAt_succ (b := b0) hw); clear hw; obtain ⟨o, ho⟩ : ∃ o, okAt b0 ws 2 = o := ⟨_, rfl⟩
         rw [ho] at HS; simp only [ho]; cases o with
         | false =>
          go_wp2; go_roundw
          case rel => exact ⟨3, by omega, rfl, by rw [HS.out]; rfl, HEE.out.alloc _⟩
          case measure => simp [intOf]
         | true =>
          by_cases g0 : 0 ≤ xe
          · by_cases g1 : xe ≤ 59
            · go_wp2; go_roundw
              case rel => exact ⟨3, by omega, rfl, by rw [HS.out]; simp [within, g0, g1], HEE.out.alloc _⟩
              case measure => simp [intOf]
            · go_wp2; go_roundw
              case rel => exact ⟨3, by omega, rfl, by rw [HS.out]; simp [within, g0, g1], HEE.out.alloc _⟩
              case measure => simp [intOf]
          · have g0' : decide (0 ≤ xe) = false := by simpa using g0
            go_wp2; go_roundw
            case rel => exact ⟨3, by omega, rfl, by rw [HS.out]; simp [within, g0], HEE.out.alloc _⟩
            case measure => simp [intOf]
       · have hw : ws[3]? = some (within xg 999) := by rw [← HWS.out]; rfl
         have HS := Lib.hid (okAt_succ (b := b0) hw); clear hw; obtain ⟨o, ho⟩ : ∃ o, okAt b0 ws 3 = o := ⟨_, rfl⟩
         rw [ho] at HS; simp only [ho]; cases o with
         | false =>
          go_wp2; go_roundw
          case rel => exact ⟨4, by omega, rfl, by rw [HS.out]; rfl, HEE.out.alloc _⟩
          case measure => simp [intOf]
         | true =>
          by_cases g0 : 0 ≤ xg
          · by_cases g1 : xg ≤ 999
            · go_wp2; go_roundw
              case rel => exact ⟨4, by omega, rfl, by rw [HS.out]; simp [within, g0, g1], HEE.out.alloc _⟩
              case measure => simp [intOf]
            · go_wp2; go_roundw
              case rel => exact ⟨4, by omega, rfl, by rw [HS.out]; simp [within, g0, g1], HEE.out.alloc _⟩
              case measure => simp [intOf]
          · have g0' : decide (0 ≤ xg) = false := by simpa using g0
            go_wp2; go_roundw
            case rel => exact ⟨4, by omega, rfl, by rw [HS.out]; simp [within, g0], HEE.out.alloc _⟩
            case measure => simp [intOf]
     · obtain rfl : k = 4 := by omega
       obtain ⟨o, ho⟩ : ∃ o, okAt b0 ws 4 = o := ⟨_, rfl⟩
       have ho2 := ho; unfold okAt at ho2; rw [← HWS.out] at ho2; simp only [List.take_succ_cons, List.take_zero, List.all_cons, List.all_nil, id, Bool.and_true] at ho2; simp only [ho]; cases o with
       | false =>
        have e : r = (0, 20) := by
         rw [← HR.out]; cases d with
         | none => rfl
         | some n =>
          have : b0 = true := by rw [← HB0.out]; rfl
          rw [this, Bool.true_and] at ho2; simp only; rw [if_neg]; simp only [Bool.and_assoc] at ho2 ⊢; rw [ho2]; simp
        subst e; clear ho ho2 HR; go_wp2; go_ret2; exact ⟨rfl, HEE.out⟩
       | true =>
        simp only [Bool.and_eq_true] at ho2; obtain ⟨q0, q1, q2, q3, q4⟩ := ho2; have e : r = (d.getD 0 * 86400000 + (xb * 3600000 + xc * 60000 + xe * 1000 + xg), 0) := by
         rw [← HR.out]; cases d with
         | none => rw [← HB0.out] at q0; cases q0
         | some n =>
          simp only; rw [if_pos (by rw [q1, q2, q3, q4]; rfl)]; rfl
        unfold within at q1 q2 q3 q4; simp only [Bool.and_eq_true, decide_eq_true_eq] at q1 q2 q3 q4; subst e; obtain ⟨q11, q12⟩ := q1; obtain ⟨q21, q22⟩ := q2; obtain ⟨q31, q32⟩ := q3; obtain ⟨q41, q42⟩ := q4; obtain ⟨d1, d2⟩ := hdr; clear ho HR q0; go_wp2; go_ret2; exact ⟨rfl, HEE.out⟩
end
section
open Go Go.RowKit
set_option maxHeartbeats 1600000
attribute [local go_sem] ba_get
structure MsgAt (w : World) (g : Nat) (m : Msg) : Prop where
 wt : WT m
 blk : w.heap[g]? = some (.cells (msgV m) 23)
theorem MsgAt.lt {w : World} {g : Nat} {m : Msg} (h : MsgAt w g m) : g < w.heap.size := (Array.getElem?_eq_some_iff.1 h.blk).1
theorem MsgAt.ext {w w' : World} {g : Nat} {m : Msg} (h : MsgAt w g m) (hE : Ext w w') : MsgAt w' g m := ⟨h.wt, hE.heap h.blk⟩
theorem MsgAt.cell {w : World} {g : Nat} {m : Msg} (h : MsgAt w g m) {k : Nat} (hk : k < 42) : w.cell? ⟨g, k, none⟩ = some (cellAt m k).v := by
 rw [cell_of_row _ _ _ _ _ (0, 0) h.blk, msgV_at h.wt hk]
theorem MsgAt.frozen {w : World} {g : Nat} {m : Msg} (h : MsgAt w g m) (k : Nat) : w.frozen? ⟨g, k, none⟩ = false := by
 simp [World.frozen?, h.blk]
theorem MsgAt.put {w : World} {g : Nat} {m : Msg} (h : MsgAt w g m) {k : Nat} {c : Cell} (hm : WT (m.set k c)) : MsgAt (w.setCell ⟨g, k, none⟩ c.v) g (m.set k c) := by
 refine ⟨hm, ?_⟩; simp only [World.setCell, Array.getElem?_modify, h.blk, if_true, Option.map_some]; simp [msgV, List.map_set]
theorem turned_setCell (w : World) (g k : Nat) (v : Value) : w.grownBy (w.setCell ⟨g, k, none⟩ v) (some g) :=
 ⟨rfl, rfl, rfl, by simp [World.setCell], fun j hj hne => Below.heap_setCell w ⟨g, k, none⟩ v j (fun e => hne (congrArg some e))⟩
theorem turned_ext {w w' : World} (h : Ext w w') (row : Option Nat) : w.grownBy w' row := ⟨h.os, h.tape, h.output, h.size, fun k hk _ => h.block k hk⟩
theorem turned_trans {w w' w'' : World} {row : Option Nat} (h : w.grownBy w' row) (h2 : w'.grownBy w'' row) : w.grownBy w'' row :=
 ⟨h2.os.trans h.os, h2.tape.trans h.tape, h2.output.trans h.output, Nat.le_trans h.size h2.size, fun k hk hne => (h2.block k (Nat.lt_of_lt_of_le hk h.size) hne).trans (h.block k hk hne)⟩
theorem ty_lt {k : Nat} {t : Ty} (h : tys[k]? = some t) : k < 42 := (List.getElem?_eq_some_iff.1 h).1
structure PtrFn (f k : Nat) : Prop where
 enters : Enters f
 calls : ∀ b w, Calls Tryz.prog f #[.pointer (some ⟨b, 0, none⟩)] w fun e w' => e = .returned (.pointer (some ⟨b, k, none⟩)) ∧ w = w'
structure Keep (D : Nat → Prop) (w w' : World) : Prop where
 os : w'.os = w.os
 tape : w'.tape = w.tape
 output : w'.output = w.output
 size : w.heap.size ≤ w'.heap.size
 block : ∀ k, k < w.heap.size → ¬ D k → w'.heap[k]? = w.heap[k]?
theorem Keep.of {D : Nat → Prop} {w w' : World} (h : Ext w w') : Keep D w w' := ⟨h.os, h.tape, h.output, h.size, fun k hk _ => h.block k hk⟩
theorem Keep.trans {D : Nat → Prop} {w w' w'' : World} (h : Keep D w w') (h2 : Keep D w' w'') : Keep D w w'' :=
 ⟨h2.os.trans h.os, h2.tape.trans h.tape, h2.output.trans h.output, Nat.le_trans h.size h2.size, fun k hk hd => (h2.block k (Nat.lt_of_lt_of_le hk h.size) hd).trans (h.block k hk hd)⟩
theorem Keep.cell {D : Nat → Prop} {w w' : World} (h : Keep D w w') {b o : Nat} {v : Value} (hc : w.cell? ⟨b, o, none⟩ = some v) (hd : ¬ D b) : w'.cell? ⟨b, o, none⟩ = some v :=
 (World.cell?_of_block (a := ⟨b, o, none⟩) (h.block b (lt_of_cell hc) hd)).trans hc
theorem Keep.sub {D D' : Nat → Prop} {w w' : World} (h : Keep D w w') (hs : ∀ k, D k → D' k) : Keep D' w w' := ⟨h.os, h.tape, h.output, h.size, fun k hk hd => h.block k hk fun hk' => hd (hs k hk')⟩
def Old (D : Nat → Prop) (w : World) : Prop := ∀ k, D k → k < w.heap.size
def FnThere (D : Nat → Prop) (w : World) (F : Value) (k : Nat) : Prop :=
 ∃ fid caps, F = .func (.func fid) #[] caps ∧ Enters fid ∧ ∀ w', Keep D w w' → ∀ g m, MsgAt w' g m →
  Calls Tryz.prog fid (#[.pointer (some ⟨g, 0, none⟩)] ++ caps) w' fun e w'' => e = .returned (.bool (there m k)) ∧ Ext w' w''
def FnShow (D : Nat → Prop) (w : World) (F : Value) (f : Form) (k : Nat) : Prop :=
 ∃ fid caps, F = .func (.func fid) #[] caps ∧ Enters fid ∧ ∀ w', Keep D w w' → Env w' → ∀ g m, MsgAt w' g m → f.may (cellAt m k) = true →
  Calls Tryz.prog fid (#[.pointer (some ⟨g, 0, none⟩)] ++ caps) w' fun e w'' => e = .returned (.string ⟨(f.print (cellAt m k)).toArray⟩) ∧ Ext w' w''
def putRead (m : Msg) (k : Nat) : Option Cell → Msg
 | some c => m.set k c
 | none => m
def FnTake (D : Nat → Prop) (w : World) (F : Value) (f : Form) (k : Nat) : Prop :=
 ∃ fid caps, F = .func (.func fid) #[] caps ∧ Enters fid ∧ ∀ w', Keep D w w' → Env w' → ∀ g m (s : List UInt8), MsgAt w' g m → s.length ≤ 1000000 →
  Calls Tryz.prog fid (#[.pointer (some ⟨g, 0, none⟩), .string ⟨s.toArray⟩] ++ caps) w' fun e w'' => e = .returned (.bool (f.read s).isSome) ∧ MsgAt w'' g (putRead m k (f.read s)) ∧ w'.grownBy w'' (some g)
structure IsForm (D : Nat → Prop) (w : World) (v : Value) (num : Int) (f : Form) (k : Nat) : Prop where
 is : ∃ a b c, v = .agg #[.int .i64 num, a, b, c] ∧ FnThere D w a k ∧ FnShow D w b f k ∧ FnTake D w c f k
theorem IsForm.after {D D' : Nat → Prop} {w w1 : World} {v : Value} {num : Int} {f : Form} {k : Nat} (h : IsForm D' w v num f k) (hE : ∀ w', Keep D w1 w' → Keep D' w w') : IsForm D w1 v num f k := by
 obtain ⟨a, b, c, e, ⟨fa, ca, ea, h1, h2⟩, ⟨fb, cb, eb, h3, h4⟩, ⟨fc, cc, ec, h5, h6⟩⟩ := h.is; exact ⟨a, b, c, e, ⟨fa, ca, ea, h1, fun w' hw' => h2 w' (hE w' hw')⟩, ⟨fb, cb, eb, h3, fun w' hw' => h4 w' (hE w' hw')⟩, ⟨fc, cc, ec, h5, fun w' hw' => h6 w' (hE w' hw')⟩⟩
def FnNum (D : Nat → Prop) (w : World) (F : Value) (f : Form) : Prop :=
 ∃ fid caps, F = .func (.func fid) #[] caps ∧ Enters fid ∧ ∀ w', Keep D w w' → Env w' → ∀ n : Int, -9223372036854775808 ≤ n → n ≤ 9223372036854775807 → f.printable n = true →
  Calls Tryz.prog fid (#[.int .i64 n] ++ caps) w' fun e w'' => e = .returned (.string ⟨(f.printN n).toArray⟩) ∧ Ext w' w''
structure Reads1 (e : Ending) (r : Option Int) : Prop where
 is : ∃ n, e = .returned (.tuple #[.int .i64 n, .bool r.isSome]) ∧ ∀ x, r = some x → n = x
def FnGet (D : Nat → Prop) (w : World) (F : Value) (f : Form) : Prop :=
 ∃ fid caps, F = .func (.func fid) #[] caps ∧ Enters fid ∧ ∀ w', Keep D w w' → Env w' → ∀ s : List UInt8, s.length ≤ 1000000 →
  Calls Tryz.prog fid (#[.string ⟨s.toArray⟩] ++ caps) w' fun e w'' => Reads1 e (f.readN s) ∧ Ext w' w''
structure Form.Num (f : Form) : Prop where
 ty : f.ty = .I
 read : ∀ s, f.read s = (f.readN s).map .I
 sane : f.sane = true
theorem nums1 (q k b : Nat) (hk : tys[k]? = some .I) (hq : PtrFn q k) (g : Nat) (m : Msg) (w : World) (hM : MsgAt w g m) (ha : w.cell? ⟨b, 0, none⟩ = some (.func (.func q) #[] #[])) :
 Calls Tryz.prog 350 #[.pointer (some ⟨g, 0, none⟩), .pointer (some ⟨b, 0, none⟩)] w fun e w' => e = .returned (.bool (there m k)) ∧ Ext w w' := by
 rw [there_int hM.wt hk]; have hc := hM.cell (ty_lt hk); rw [cellAt_int hM.wt hk] at hc; have he := hq.enters; have HC := Lib.hid (hq.calls g); clear hq hM; generalize gi m k = x at *; unfold Enters at he; go_enter Tryz.func350, Tryz.ntmps350
 go_wp2_with (first | (refine (HC.out _).mono ?_; rintro e w1 ⟨rfl, rfl⟩)); go_ret; exact ⟨rfl, Ext.refl _⟩
theorem nums2 (q k b c fw : Nat) (cw : Array Value) (f : Form) (hk : tys[k]? = some .I) (hq : PtrFn q k) (hfw : Enters fw) (g : Nat) (m : Msg) (w : World) (hM : MsgAt w g m)
 (hcall : ∀ w', Ext w w' → Calls Tryz.prog fw (#[.int .i64 (gi m k)] ++ cw) w' fun e w'' => e = .returned (.string ⟨(f.printN (gi m k)).toArray⟩) ∧ Ext w' w'')
 (hb : w.cell? ⟨c, 0, none⟩ = some (.func (.func fw) #[] cw)) (ha : w.cell? ⟨b, 0, none⟩ = some (.func (.func q) #[] #[])) :
 Calls Tryz.prog 351 #[.pointer (some ⟨g, 0, none⟩), .pointer (some ⟨c, 0, none⟩), .pointer (some ⟨b, 0, none⟩)] w fun e w' => e = .returned (.string ⟨(f.printN (gi m k)).toArray⟩) ∧ Ext w w' := by
 have hc := hM.cell (ty_lt hk); rw [cellAt_int hM.wt hk] at hc; have he := hq.enters; have HC := Lib.hid (hq.calls g); have HW := Lib.hid hcall; clear hq hM hcall; generalize gi m k = x at *; generalize f.printN x = y at *; unfold Enters at he hfw; go_enter Tryz.func351, Tryz.ntmps351
 go_wp2_with fail; refine wp_region_steps (fun _ => by kernel_rfl) [.is (.func (.func fw) #[] cw), .is (.func (.func q) #[] #[]), .is (.pointer (some ⟨g, 0, none⟩)), .is (.pointer (some ⟨g, k, none⟩)), .is (.pointer (some ⟨g, k, none⟩)), .is (.int .i64 x), .is (.string ⟨y.toArray⟩), .is (.string ⟨y.toArray⟩)] (by kernel_rfl) ?_ ?_
 · refine And.intro ?_ (And.intro ?_ (And.intro ?_ (And.intro ?_ (And.intro ?_ (And.intro ?_ (And.intro ?_ (And.intro ?_ (True.intro))))))))
   · intro ρ w' hE hB hD; have m0 := hE.cell ha; have m1 := hE.cell hb; have m2 := hE.cell hc; have e1 : ρ (.tmp 1) = _ := hB (.tmp 1) rfl; clear hB hD; refine .inl ⟨rfl, ?_⟩; unfold Gives; go_simp; first | done | exact xr0 | exact xr1
   · intro ρ w' hE hB hD; have m0 := hE.cell ha; have m1 := hE.cell hb; have m2 := hE.cell hc; have e2 : ρ (.tmp 2) = _ := hB (.tmp 2) rfl; clear hB hD; refine .inl ⟨rfl, ?_⟩; unfold Gives; go_simp; first | done | exact xr0 | exact xr1
   · intro ρ w' hE hB hD; have e0 : ρ (.tmp 0) = _ := hB (.tmp 0) rfl; clear hB hD; refine .inl ⟨rfl, ?_⟩; unfold Gives; go_simp; first | done | exact xr0 | exact xr1
   · intro ρ w' hE hB hD; have e6 : ρ (.tmp 6) = .func (.func q) #[] #[] := hD 1 6 rfl rfl; have e7 : ρ (.tmp 7) = .pointer (some ⟨g, 0, none⟩) := hD 2 7 rfl rfl; clear hB hD; refine .inl ⟨rfl, ?_⟩; unfold Gives; go_simp; refine (HC.out w').mono ?_; rintro e w1 ⟨rfl, rfl⟩; exact ⟨_, rfl, Ext.refl _, rfl⟩
   · intro ρ w' hE hB hD; have e8 : ρ (.tmp 8) = .pointer (some ⟨g, k, none⟩) := hD 3 8 rfl rfl; clear hB hD; refine .inl ⟨rfl, ?_⟩; unfold Gives; go_simp; first | done | exact xr0 | exact xr1
   · intro ρ w' hE hB hD; have m0 := hE.cell ha; have m1 := hE.cell hb; have m2 := hE.cell hc; have e9 : ρ (.tmp 9) = .pointer (some ⟨g, k, none⟩) := hD 4 9 rfl rfl; clear hB hD; refine .inl ⟨rfl, ?_⟩; unfold Gives; go_simp; first | done | exact xr0 | exact xr1
   · intro ρ w' hE hB hD; have e5 : ρ (.tmp 5) = .func (.func fw) #[] cw := hD 0 5 rfl rfl; have e10 : ρ (.tmp 10) = .int .i64 x := hD 5 10 rfl rfl; clear hB hD; refine .inl ⟨rfl, ?_⟩; unfold Gives; go_simp; refine (HW.out w' hE).mono ?_; rintro e w1 ⟨rfl, hE1⟩; exact ⟨_, rfl, hE1, rfl⟩
   · intro ρ w' hE hB hD; have e11 : ρ (.tmp 11) = .string ⟨y.toArray⟩ := hD 6 11 rfl rfl; clear hB hD; refine .inl ⟨rfl, ?_⟩; unfold Gives; go_simp; first | done | exact xr0 | exact xr1
 · intro a' w1 hE1 hd' hs' hB' hP'; have ha' := act_of_posts [(5, .func (.func fw) #[] cw), (6, .func (.func q) #[] #[]), (7, .pointer (some ⟨g, 0, none⟩)), (8, .pointer (some ⟨g, k, none⟩)), (9, .pointer (some ⟨g, k, none⟩)), (10, .int .i64 x), (11, .string ⟨y.toArray⟩), (4, .string ⟨y.toArray⟩)] hd' hs' hB' (by simp) (by kernel_rfl) (by
    intro p hp; simp only [List.mem_cons, List.mem_nil_iff, or_false] at hp
    rcases hp with rfl | rfl | rfl | rfl | rfl | rfl | rfl | rfl
    · exact hP' 0 5 rfl
    · exact hP' 1 6 rfl
    · exact hP' 2 7 rfl
    · exact hP' 3 8 rfl
    · exact hP' 4 9 rfl
    · exact hP' 5 10 rfl
    · exact hP' 6 11 rfl
    · exact hP' 7 4 rfl)
   clear hB' hP' hs' hd'; simp only [List.foldl_cons, List.foldl_nil, List.setIfInBounds_toArray, List.set_cons_succ, List.set_cons_zero] at ha'; subst ha'; go_wp2; go_ret; exact ⟨rfl, hE1⟩
theorem nums3 (q k b c fr : Nat) (cr : Array Value) (f : Form) (hf : f.Num) (hk : tys[k]? = some .I) (hq : PtrFn q k) (hfr : Enters fr) (g : Nat) (m : Msg) (s : List UInt8) (hs : s.length ≤ 1000000) (w : World) (hM : MsgAt w g m)
 (hcall : Calls Tryz.prog fr (#[.string ⟨s.toArray⟩] ++ cr) w fun e w'' => Reads1 e (f.readN s) ∧ Ext w w'')
 (hb : w.cell? ⟨c, 0, none⟩ = some (.func (.func fr) #[] cr)) (ha : w.cell? ⟨b, 0, none⟩ = some (.func (.func q) #[] #[])) :
 Calls Tryz.prog 352 #[.pointer (some ⟨g, 0, none⟩), .string ⟨s.toArray⟩, .pointer (some ⟨c, 0, none⟩), .pointer (some ⟨b, 0, none⟩)] w fun e w' =>
  e = .returned (.bool (f.read s).isSome) ∧ MsgAt w' g (putRead m k (f.read s)) ∧ w.grownBy w' (some g) := by
 rw [hf.read s]; have hty := hM.wt; obtain ⟨r, hr⟩ : ∃ r, f.readN s = r := ⟨_, rfl⟩
 have hrange : ∀ x, r = some x → 0 ≤ x ∧ x ≤ 9223372036854775807 := fun x hx => readN_range hf.sane (hr.trans hx)
 rw [hr] at hcall ⊢; have he := hq.enters; have HC := Lib.hid (hq.calls g); have HW := Lib.hid hcall; have HM := Lib.hid hM; have HR := Lib.hid hrange; clear hq hM hcall hr hrange hty; unfold Enters at he hfr; cases r with
 | none =>
  simp only [Option.map_none, Option.isSome_none, putRead]; go_enter Tryz.func352, Tryz.ntmps352
  go_wp2_with fail; refine HW.out.mono ?_; rintro e w1 ⟨⟨n, rfl, hn⟩, hX⟩; simp only [Option.isSome_none]; clear hn; go_wp2; go_ret; exact ⟨rfl, HM.out.ext hX, turned_ext hX _⟩
 | some x =>
  simp only [Option.map_some, Option.isSome_some, putRead]; have hx := HR.out x rfl; go_enter Tryz.func352, Tryz.ntmps352
  go_wp2_with fail; refine HW.out.mono ?_; rintro e w1 ⟨⟨n, rfl, hn⟩, hX⟩; have hn := hn x rfl; subst hn; simp only [Option.isSome_some]; have hM1 := HM.out.ext hX; have hc := hM1.cell (ty_lt hk); have hz := hM1.frozen k; have ha1 := hX.cell ha; have HM1 := Lib.hid hM1; have hset := hM1.put (k := k) (c := .I n) (hM1.wt.set hk (by unfold Cell.ok; simp only [Bool.and_eq_true, decide_eq_true_eq]; omega)); have HSET := Lib.hid hset; clear hM1 hset; go_wp2_with (first | (refine (HC.out _).mono ?_; rintro e w2 ⟨rfl, rfl⟩)); go_ret; exact ⟨rfl, HSET.out, turned_trans (turned_ext hX _) (turned_setCell _ _ _ _)⟩
theorem numbers (D : Nat → Prop) (num : Int) (q k fw fr : Nat) (cw cr : Array Value) (f : Form) (hf : f.Num) (hk : tys[k]? = some .I) (hq : PtrFn q k) (w : World) (hD : Old D w) (hw : FnNum D w (.func (.func fw) #[] cw) f) (hr : FnGet D w (.func (.func fr) #[] cr) f) :
 Calls Tryz.prog 249 #[.int .i64 num, .func (.func q) #[] #[], .func (.func fw) #[] cw, .func (.func fr) #[] cr] w fun e w' => Returns e (fun v => IsForm D w' v num f k) ∧ Ext w w' := by
 obtain ⟨fw', cw', e1, w1, w2⟩ := hw; cases e1
 obtain ⟨fr', cr', e2, r1, r2⟩ := hr; cases e2
 have W1 := Lib.hid w1; have W2 := Lib.hid w2; have R1 := Lib.hid r1; have R2 := Lib.hid r2; have hD0 : ∀ j, ¬ D (w.heap.size + j) := fun j hj => by have := hD _ hj; omega
 have d0 := Lib.hid (hD0 0); have d1 := Lib.hid (hD0 1); have d2 := Lib.hid (hD0 2); clear w1 w2 r1 r2 hD hD0; go_enter Tryz.func249, Tryz.ntmps249
 go_wp2; refine bodyPost_ret (v := .agg #[.int .i64 num, _, _, _]) (by simp [results, Tryz.results249, go_sem]; exact ⟨rfl, rfl, rfl⟩) rfl ⟨⟨_, rfl, ⟨_, _, _, rfl, ?_, ?_, ?_⟩⟩, ?_⟩
 · refine ⟨_, _, rfl, fun args w => by go_simp, fun w' hE g m hM => ?_⟩; simpa using nums1 q k w.heap.size hk hq g m w' hM (hE.cell (by go_simp) d0.out)
 · refine ⟨_, _, rfl, fun args w => by go_simp, fun w' hE hV g m hM hp => ?_⟩; have hci : cellAt m k = .I (gi m k) := by simp [cellAt, hM.wt.int hk]
   rw [hci] at hp ⊢; obtain ⟨x1, x2⟩ := hM.wt.gi_range hk; simpa [Form.print] using nums2 q k w.heap.size (w.heap.size + 1) fw cw f hk hq W1.out g m w' hM (fun w2 hE2 => W2.out w2 ((Keep.of (((((Ext.refl w).alloc _).alloc _).alloc _).alloc _)).trans (hE.trans (Keep.of hE2))) (hV.ext hE2) _ x1 x2 hp) (hE.cell (by go_simp) d1.out) (hE.cell (by go_simp) d0.out)
 · refine ⟨_, _, rfl, fun args w => by go_simp, fun w' hE hV g m s hM hs => ?_⟩; simpa using nums3 q k w.heap.size (w.heap.size + 2) fr cr f hf hk hq R1.out g m s hs w' hM (R2.out w' ((Keep.of (((((Ext.refl w).alloc _).alloc _).alloc _).alloc _)).trans hE) hV s hs) (hE.cell (by go_simp) d2.out) (hE.cell (by go_simp) d0.out)
 · exact ((((Ext.refl _).alloc _).alloc _).alloc _).alloc _
theorem nums1L (q k b : Nat) (hk : tys[k]? = some .I) (hq : PtrFn q k) (g : Nat) (m : Msg) (w : World) (hM : MsgAt w g m) (ha : w.cell? ⟨b, 0, none⟩ = some (.func (.func q) #[] #[])) :
 Calls Tryz.prog 356 #[.pointer (some ⟨g, 0, none⟩), .pointer (some ⟨b, 0, none⟩)] w fun e w' => e = .returned (.bool (there m k)) ∧ Ext w w' := by
 rw [there_int hM.wt hk]; have hc := hM.cell (ty_lt hk); rw [cellAt_int hM.wt hk] at hc; have he := hq.enters; have HC := Lib.hid (hq.calls g); clear hq hM; generalize gi m k = x at *; unfold Enters at he; go_enter Tryz.func356, Tryz.ntmps356
 go_wp2_with (first | (refine (HC.out _).mono ?_; rintro e w1 ⟨rfl, rfl⟩)); go_ret; exact ⟨rfl, Ext.refl _⟩
theorem nums2L (q k b c fw : Nat) (cw : Array Value) (f : Form) (hk : tys[k]? = some .I) (hq : PtrFn q k) (hfw : Enters fw) (g : Nat) (m : Msg) (w : World) (hM : MsgAt w g m)
 (hcall : ∀ w', Ext w w' → Calls Tryz.prog fw (#[.int .i64 (gi m k)] ++ cw) w' fun e w'' => e = .returned (.string ⟨(f.printN (gi m k)).toArray⟩) ∧ Ext w' w'')
 (hb : w.cell? ⟨c, 0, none⟩ = some (.func (.func fw) #[] cw)) (ha : w.cell? ⟨b, 0, none⟩ = some (.func (.func q) #[] #[])) :
 Calls Tryz.prog 357 #[.pointer (some ⟨g, 0, none⟩), .pointer (some ⟨c, 0, none⟩), .pointer (some ⟨b, 0, none⟩)] w fun e w' => e = .returned (.string ⟨(f.printN (gi m k)).toArray⟩) ∧ Ext w w' := by
 have hc := hM.cell (ty_lt hk); rw [cellAt_int hM.wt hk] at hc; have he := hq.enters; have HC := Lib.hid (hq.calls g); have HW := Lib.hid hcall; clear hq hM hcall; generalize gi m k = x at *; generalize f.printN x = y at *; unfold Enters at he hfw; go_enter Tryz.func357, Tryz.ntmps357
 go_wp2_with fail; refine wp_region_steps (fun _ => by kernel_rfl) [.is (.func (.func fw) #[] cw), .is (.func (.func q) #[] #[]), .is (.pointer (some ⟨g, 0, none⟩)), .is (.pointer (some ⟨g, k, none⟩)), .is (.pointer (some ⟨g, k, none⟩)), .is (.int .i64 x), .is (.string ⟨y.toArray⟩), .is (.string ⟨y.toArray⟩)] (by kernel_rfl) ?_ ?_
 · refine And.intro ?_ (And.intro ?_ (And.intro ?_ (And.intro ?_ (And.intro ?_ (And.intro ?_ (And.intro ?_ (And.intro ?_ (True.intro))))))))
   · intro ρ w' hE hB hD; have m0 := hE.cell ha; have m1 := hE.cell hb; have m2 := hE.cell hc; have e1 : ρ (.tmp 1) = _ := hB (.tmp 1) rfl; clear hB hD; refine .inl ⟨rfl, ?_⟩; unfold Gives; go_simp; first | done | exact xr0 | exact xr1
   · intro ρ w' hE hB hD; have m0 := hE.cell ha; have m1 := hE.cell hb; have m2 := hE.cell hc; have e2 : ρ (.tmp 2) = _ := hB (.tmp 2) rfl; clear hB hD; refine .inl ⟨rfl, ?_⟩; unfold Gives; go_simp; first | done | exact xr0 | exact xr1
   · intro ρ w' hE hB hD; have e0 : ρ (.tmp 0) = _ := hB (.tmp 0) rfl; clear hB hD; refine .inl ⟨rfl, ?_⟩; unfold Gives; go_simp; first | done | exact xr0 | exact xr1
   · intro ρ w' hE hB hD; have e6 : ρ (.tmp 6) = .func (.func q) #[] #[] := hD 1 6 rfl rfl; have e7 : ρ (.tmp 7) = .pointer (some ⟨g, 0, none⟩) := hD 2 7 rfl rfl; clear hB hD; refine .inl ⟨rfl, ?_⟩; unfold Gives; go_simp; refine (HC.out w').mono ?_; rintro e w1 ⟨rfl, rfl⟩; exact ⟨_, rfl, Ext.refl _, rfl⟩
   · intro ρ w' hE hB hD; have e8 : ρ (.tmp 8) = .pointer (some ⟨g, k, none⟩) := hD 3 8 rfl rfl; clear hB hD; refine .inl ⟨rfl, ?_⟩; unfold Gives; go_simp; first | done | exact xr0 | exact xr1
   · intro ρ w' hE hB hD; have m0 := hE.cell ha; have m1 := hE.cell hb; have m2 := hE.cell hc; have e9 : ρ (.tmp 9) = .pointer (some ⟨g, k, none⟩) := hD 4 9 rfl rfl; clear hB hD; refine .inl ⟨rfl, ?_⟩; unfold Gives; go_simp; first | done | exact xr0 | exact xr1
   · intro ρ w' hE hB hD; have e5 : ρ (.tmp 5) = .func (.func fw) #[] cw := hD 0 5 rfl rfl; have e10 : ρ (.tmp 10) = .int .i64 x := hD 5 10 rfl rfl; clear hB hD; refine .inl ⟨rfl, ?_⟩; unfold Gives; go_simp; refine (HW.out w' hE).mono ?_; rintro e w1 ⟨rfl, hE1⟩; exact ⟨_, rfl, hE1, rfl⟩
   · intro ρ w' hE hB hD; have e11 : ρ (.tmp 11) = .string ⟨y.toArray⟩ := hD 6 11 rfl rfl; clear hB hD; refine .inl ⟨rfl, ?_⟩; unfold Gives; go_simp; first | done | exact xr0 | exact xr1
 · intro a' w1 hE1 hd' hs' hB' hP'; have ha' := act_of_posts [(5, .func (.func fw) #[] cw), (6, .func (.func q) #[] #[]), (7, .pointer (some ⟨g, 0, none⟩)), (8, .pointer (some ⟨g, k, none⟩)), (9, .pointer (some ⟨g, k, none⟩)), (10, .int .i64 x), (11, .string ⟨y.toArray⟩), (4, .string ⟨y.toArray⟩)] hd' hs' hB' (by simp) (by kernel_rfl) (by
    intro p hp; simp only [List.mem_cons, List.mem_nil_iff, or_false] at hp
    rcases hp with rfl | rfl | rfl | rfl | rfl | rfl | rfl | rfl
    · exact hP' 0 5 rfl
    · exact hP' 1 6 rfl
    · exact hP' 2 7 rfl
    · exact hP' 3 8 rfl
    · exact hP' 4 9 rfl
    · exact hP' 5 10 rfl
    · exact hP' 6 11 rfl
    · exact hP' 7 4 rfl)
   clear hB' hP' hs' hd'; simp only [List.foldl_cons, List.foldl_nil, List.setIfInBounds_toArray, List.set_cons_succ, List.set_cons_zero] at ha'; subst ha'; go_wp2; go_ret; exact ⟨rfl, hE1⟩
theorem nums3L (q k b c fr : Nat) (cr : Array Value) (f : Form) (hf : f.Num) (hk : tys[k]? = some .I) (hq : PtrFn q k) (hfr : Enters fr) (g : Nat) (m : Msg) (s : List UInt8) (hs : s.length ≤ 1000000) (w : World) (hM : MsgAt w g m)
 (hcall : Calls Tryz.prog fr (#[.string ⟨s.toArray⟩] ++ cr) w fun e w'' => Reads1 e (f.readN s) ∧ Ext w w'')
 (hb : w.cell? ⟨c, 0, none⟩ = some (.func (.func fr) #[] cr)) (ha : w.cell? ⟨b, 0, none⟩ = some (.func (.func q) #[] #[])) :
 Calls Tryz.prog 358 #[.pointer (some ⟨g, 0, none⟩), .string ⟨s.toArray⟩, .pointer (some ⟨c, 0, none⟩), .pointer (some ⟨b, 0, none⟩)] w fun e w' =>
  e = .returned (.bool (f.read s).isSome) ∧ MsgAt w' g (putRead m k (f.read s)) ∧ w.grownBy w' (some g) := by
 rw [hf.read s]; have hty := hM.wt; obtain ⟨r, hr⟩ : ∃ r, f.readN s = r := ⟨_, rfl⟩
 have hrange : ∀ x, r = some x → 0 ≤ x ∧ x ≤ 9223372036854775807 := fun x hx => readN_range hf.sane (hr.trans hx)
 rw [hr] at hcall ⊢; have he := hq.enters; have HC := Lib.hid (hq.calls g); have HW := Lib.hid hcall; have HM := Lib.hid hM; have HR := Lib.hid hrange; clear hq hM hcall hr hrange hty; unfold Enters at he hfr; cases r with
 | none =>
  simp only [Option.map_none, Option.isSome_none, putRead]; go_enter Tryz.func358, Tryz.ntmps358
  go_wp2_with fail; refine HW.out.mono ?_; rintro e w1 ⟨⟨n, rfl, hn⟩, hX⟩; simp only [Option.isSome_none]; clear hn; go_wp2; go_ret; exact ⟨rfl, HM.out.ext hX, turned_ext hX _⟩
 | some x =>
  simp only [Option.map_some, Option.isSome_some, putRead]; have hx := HR.out x rfl; go_enter Tryz.func358, Tryz.ntmps358
  go_wp2_with fail; refine HW.out.mono ?_; rintro e w1 ⟨⟨n, rfl, hn⟩, hX⟩; have hn := hn x rfl; subst hn; simp only [Option.isSome_some]; have hM1 := HM.out.ext hX; have hc := hM1.cell (ty_lt hk); have hz := hM1.frozen k; have ha1 := hX.cell ha; have HM1 := Lib.hid hM1; have hset := hM1.put (k := k) (c := .I n) (hM1.wt.set hk (by unfold Cell.ok; simp only [Bool.and_eq_true, decide_eq_true_eq]; omega)); have HSET := Lib.hid hset; clear hM1 hset; go_wp2_with (first | (refine (HC.out _).mono ?_; rintro e w2 ⟨rfl, rfl⟩)); go_ret; exact ⟨rfl, HSET.out, turned_trans (turned_ext hX _) (turned_setCell _ _ _ _)⟩
theorem numbersL (D : Nat → Prop) (num : Int) (q k fw fr : Nat) (cw cr : Array Value) (f : Form) (hf : f.Num) (hk : tys[k]? = some .I) (hq : PtrFn q k) (w : World) (hD : Old D w) (hw : FnNum D w (.func (.func fw) #[] cw) f) (hr : FnGet D w (.func (.func fr) #[] cr) f) :
 Calls Tryz.prog 262 #[.int .i64 num, .func (.func q) #[] #[], .func (.func fw) #[] cw, .func (.func fr) #[] cr] w fun e w' => Returns e (fun v => IsForm D w' v num f k) ∧ Ext w w' := by
 obtain ⟨fw', cw', e1, w1, w2⟩ := hw; cases e1
 obtain ⟨fr', cr', e2, r1, r2⟩ := hr; cases e2
 have W1 := Lib.hid w1; have W2 := Lib.hid w2; have R1 := Lib.hid r1; have R2 := Lib.hid r2; have hD0 : ∀ j, ¬ D (w.heap.size + j) := fun j hj => by have := hD _ hj; omega
 have d0 := Lib.hid (hD0 0); have d1 := Lib.hid (hD0 1); have d2 := Lib.hid (hD0 2); clear w1 w2 r1 r2 hD hD0; go_enter Tryz.func262, Tryz.ntmps262
 go_wp2; refine bodyPost_ret (v := .agg #[.int .i64 num, _, _, _]) (by simp [results, Tryz.results262, go_sem]; exact ⟨rfl, rfl, rfl⟩) rfl ⟨⟨_, rfl, ⟨_, _, _, rfl, ?_, ?_, ?_⟩⟩, ?_⟩
 · refine ⟨_, _, rfl, fun args w => by go_simp, fun w' hE g m hM => ?_⟩; simpa using nums1L q k w.heap.size hk hq g m w' hM (hE.cell (by go_simp) d0.out)
 · refine ⟨_, _, rfl, fun args w => by go_simp, fun w' hE hV g m hM hp => ?_⟩; have hci : cellAt m k = .I (gi m k) := by simp [cellAt, hM.wt.int hk]
   rw [hci] at hp ⊢; obtain ⟨x1, x2⟩ := hM.wt.gi_range hk; simpa [Form.print] using nums2L q k w.heap.size (w.heap.size + 1) fw cw f hk hq W1.out g m w' hM (fun w2 hE2 => W2.out w2 ((Keep.of (((((Ext.refl w).alloc _).alloc _).alloc _).alloc _)).trans (hE.trans (Keep.of hE2))) (hV.ext hE2) _ x1 x2 hp) (hE.cell (by go_simp) d1.out) (hE.cell (by go_simp) d0.out)
 · refine ⟨_, _, rfl, fun args w => by go_simp, fun w' hE hV g m s hM hs => ?_⟩; simpa using nums3L q k w.heap.size (w.heap.size + 2) fr cr f hf hk hq R1.out g m s hs w' hM (R2.out w' ((Keep.of (((((Ext.refl w).alloc _).alloc _).alloc _).alloc _)).trans hE) hV s hs) (hE.cell (by go_simp) d2.out) (hE.cell (by go_simp) d0.out)
 · exact ((((Ext.refl _).alloc _).alloc _).alloc _).alloc _
end
section
open Go Go.RowKit
set_option maxHeartbeats 1600000
attribute [local go_sem] ba_get
theorem num_numeral (lo hi : Int) (h : 0 ≤ lo) : (Form.numeral lo hi).Num := ⟨rfl, fun _ => rfl, by unfold Form.sane; simpa using h⟩
theorem num_priced : Form.priced.Num := ⟨rfl, fun _ => rfl, rfl⟩
theorem num_timed (l : Int) (h : 0 ≤ l) : (Form.timed l).Num := ⟨rfl, fun _ => rfl, by unfold Form.sane; simpa using h⟩
theorem num_date : Form.date.Num := ⟨rfl, fun _ => rfl, rfl⟩
theorem num_ordered : Form.ordered.Num := ⟨rfl, fun _ => rfl, rfl⟩
theorem num_coded (first : Int) (words : List (List UInt8)) (h0 : 0 ≤ first) (h1 : first ≤ 1) (h2 : words.length ≤ 100) : (Form.coded first words).Num :=
 ⟨rfl, fun _ => rfl, by unfold Form.sane; simp [h0, h1, h2]⟩
theorem reads_above {least : Int} {r : Int × Int} {e : Ending} (h : e = .returned (.tuple #[.int .i64 r.1, .bool (r.2 == 0 && decide (least ≤ r.1))])) : Reads1 e (above least r) := by
 refine ⟨r.1, ?_, fun x hx => (above_some hx).2.1⟩; rw [h]; congr 3
 unfold above; split
 · rename_i hc; rw [hc]; rfl
 · rename_i hc; rw [Bool.not_eq_true] at hc; rw [hc]; rfl
theorem fn_print (D : Nat → Prop) (w : World) (f : Form) (h : ∀ n, f.printable n = true → f.printN n = Lib.itoa n) : FnNum D w (.func (.func 53) #[] #[]) f :=
 ⟨_, _, rfl, fun args w => by go_simp, fun w' _ hV n h0 h1 hp => by rw [h n hp]; simpa using print_calls n h0 h1 w' hV⟩
theorem fn_price (D : Nat → Prop) (w : World) : FnNum D w (.func (.func 360) #[] #[]) .priced :=
 ⟨_, _, rfl, fun args w => by go_simp, fun w' _ hV n h0 h1 hp => by
  simp only [Form.printable, Bool.and_eq_true, decide_eq_true_eq] at hp; obtain ⟨k, rfl⟩ : ∃ k : Nat, n = k := ⟨n.toNat, by omega⟩
  have hk : k ≤ 1000000000 := by have := hp.2; unfold maxPrice at this; omega
  simpa [Form.printN] using printPrice_calls k hk w' hV⟩
theorem timed1_calls (n : Int) (h0 : 0 ≤ n) (h1 : n ≤ maxMs) (w : World) : Calls Tryz.prog 260 #[.int .i64 n] w fun e w' => e = .returned (.string ⟨(stampOf n).toArray⟩) ∧ Ext w w' := by
 have HS := Lib.hid (stamp_calls n w); rw [if_pos ⟨h0, h1⟩] at HS; generalize stampOf n = s at *; clear h0 h1; go_enter Tryz.func260, Tryz.ntmps260
 go_wp2_with (first | (refine HS.out.mono ?_; rintro e w1 ⟨rfl, hX⟩)); go_ret; exact ⟨rfl, hX⟩
theorem fn_time (D : Nat → Prop) (w : World) (l : Int) : FnNum D w (.func (.func 260) #[] #[]) (.timed l) :=
 ⟨_, _, rfl, fun args w => by go_simp, fun w' _ hV n h0 h1 hp => by
  simp only [Form.printable, Bool.and_eq_true, decide_eq_true_eq] at hp; simpa [Form.printN] using timed1_calls n hp.1 hp.2 w'⟩
theorem ordered_calls (n : Int) (h0 : -9223372036854775808 ≤ n) (h1 : n ≤ 9223372036854775807) (w : World) (hE : Env w) : Calls Tryz.prog 282 #[.int .i64 n] w fun e w' => e = .returned (.string ⟨(Form.ordered.printN n).toArray⟩) ∧ Ext w w' := by
 have HK := Lib.hid (Tryz.strconv_FormatInt_10 n h0 h1 w hE.tab); clear hE; by_cases hz : n = 0
 · subst hz; go_enter Tryz.func282, Tryz.ntmps282
   go_wp2; go_ret; exact ⟨rfl, Ext.refl _⟩
 · have hz2 : (n == 0) = false := by simpa using hz
   have hp : Form.ordered.printN n = Lib.itoa n := printN_ordered hz; rw [hp]; clear hp hz; generalize Lib.itoa n = s at *; go_enter Tryz.func282, Tryz.ntmps282
   go_wp2_with fail; refine HK.out.mono ?_; rintro e w1 ⟨rfl, k, os, rfl⟩; have hX : Ext w (Sort.grow (w.drewN k) os) := Ext.grow (Joins.below_draws _ _ _) os; generalize Sort.grow (w.drewN k) os = w1 at *; go_wp2; go_ret; exact ⟨rfl, hX⟩
theorem fn_ordered (D : Nat → Prop) (w : World) : FnNum D w (.func (.func 282) #[] #[]) .ordered :=
 ⟨_, _, rfl, fun args w => by go_simp, fun w' _ hV n h0 h1 hp => by simpa using ordered_calls n h0 h1 w' hV⟩
theorem readOrdered_calls (s : List UInt8) (hs : s.length ≤ 1000000) (w : World) (hE : Env w) : Calls Tryz.prog 283 #[.string ⟨s.toArray⟩] w fun e w' => Reads1 e (Form.ordered.readN s) ∧ Ext w w' := by
 by_cases hn : s = noneL
 · subst hn; go_enter Tryz.func283, Tryz.ntmps283
   go_wp2; go_ret2; exact ⟨⟨0, rfl, fun x hx => by simpa [Form.readN] using hx⟩, Ext.refl _⟩
 · have hne : (s == noneL) = false := by simpa using hn
   have hrd : Form.ordered.readN s = above 1 (parseUint s maxSeq) := by
    show (if (s == noneL) = true then _ else _) = _
    rw [hne]; rfl
   rw [hrd]; have HP := Lib.hid (parseUint_calls s 999999999 w (by omega) hE); have hms : maxSeq = 999999999 := rfl; rw [hms]; obtain ⟨⟨r1, r2⟩, hr⟩ : ∃ r, parseUint s 999999999 = r := ⟨_, rfl⟩
   rw [hr] at HP ⊢; have hlist : (s == [78, 79, 78, 69]) = false := hne; have h69 : ¬ s = [78, 79, 78, 69] := hn; clear hr hrd hms hne hn; by_cases hz : r2 = 0
   · subst hz; by_cases hl : 0 < r1
     · go_enter Tryz.func283, Tryz.ntmps283
       go_wp2_with fail; refine HP.out.mono ?_; rintro e w1 ⟨rfl, hX⟩; go_wp2; go_ret2; exact ⟨reads_above (by simp; omega), hX⟩
     · go_enter Tryz.func283, Tryz.ntmps283
       go_wp2_with fail; refine HP.out.mono ?_; rintro e w1 ⟨rfl, hX⟩; go_wp2; go_ret2; exact ⟨reads_above (by simp; omega), hX⟩
   · have hz2 : (r2 == 0) = false := by simpa using hz
     clear hz; go_enter Tryz.func283, Tryz.ntmps283
     go_wp2_with fail; refine HP.out.mono ?_; rintro e w1 ⟨rfl, hX⟩; go_wp2; go_ret2; exact ⟨reads_above (by rw [hz2]; rfl), hX⟩
end
section
open Go Go.RowKit
set_option maxHeartbeats 1600000
attribute [local go_sem] ba_get
theorem numeral1_calls (b c : Nat) (lo hi : Int) (s : List UInt8) (hs : s.length ≤ 1000000) (w : World) (hE : Env w) (hb : w.cell? ⟨b, 0, none⟩ = some (.int .i64 hi)) (hc : w.cell? ⟨c, 0, none⟩ = some (.int .i64 lo)) :
 Calls Tryz.prog 256 (#[.string ⟨s.toArray⟩, .pointer (some ⟨b, 0, none⟩), .pointer (some ⟨c, 0, none⟩)]) w fun e w' => Reads1 e (above lo (parseUint s hi)) ∧ Ext w w' := by
 have HP := Lib.hid (parseUint_calls s hi w (by omega) hE); obtain ⟨⟨r1, r2⟩, hr⟩ : ∃ r, parseUint s hi = r := ⟨_, rfl⟩
 rw [hr] at HP ⊢; have HE := Lib.hid hE; clear hr hE; by_cases hz : r2 = 0
 · subst hz; by_cases hl : lo ≤ r1
   · go_enter Tryz.func256, Tryz.ntmps256
     go_wp2_with fail; refine HP.out.mono ?_; rintro e w1 ⟨rfl, hX⟩; have hb1 := hX.cell hb; have hc1 := hX.cell hc; have hlt := lt_of_cell hc1; go_wp2; go_quiet (fail); go_wp2
     go_ret2; exact ⟨reads_above (by simp; omega), hX.trans (Joins.below_draws _ _ _)⟩
   · have hl2 : decide (lo ≤ r1) = false := by simpa using hl
     go_enter Tryz.func256, Tryz.ntmps256
     go_wp2_with fail; refine HP.out.mono ?_; rintro e w1 ⟨rfl, hX⟩; have hb1 := hX.cell hb; have hc1 := hX.cell hc; have hlt := lt_of_cell hc1; go_wp2; go_quiet (fail); go_wp2
     go_ret2; exact ⟨reads_above (by simp; omega), hX.trans (Joins.below_draws _ _ _)⟩
 · have hz2 : (r2 == 0) = false := by simpa using hz
   clear hz; go_enter Tryz.func256, Tryz.ntmps256
   go_wp2_with fail; refine HP.out.mono ?_; rintro e w1 ⟨rfl, hX⟩; have hb1 := hX.cell hb; have hc1 := hX.cell hc; have hlt := lt_of_cell hc1; go_wp2; go_quiet (fail); go_wp2
   go_ret2; exact ⟨reads_above (by rw [hz2]; rfl), hX.trans (Joins.below_draws _ _ _)⟩
theorem numeral1L_calls (b c : Nat) (lo hi : Int) (s : List UInt8) (hs : s.length ≤ 1000000) (w : World) (hE : Env w) (hb : w.cell? ⟨b, 0, none⟩ = some (.int .i64 hi)) (hc : w.cell? ⟨c, 0, none⟩ = some (.int .i64 lo)) :
 Calls Tryz.prog 363 (#[.string ⟨s.toArray⟩, .pointer (some ⟨b, 0, none⟩), .pointer (some ⟨c, 0, none⟩)]) w fun e w' => Reads1 e (above lo (parseUint s hi)) ∧ Ext w w' := by
 have HP := Lib.hid (parseUint_calls s hi w (by omega) hE); obtain ⟨⟨r1, r2⟩, hr⟩ : ∃ r, parseUint s hi = r := ⟨_, rfl⟩
 rw [hr] at HP ⊢; have HE := Lib.hid hE; clear hr hE; by_cases hz : r2 = 0
 · subst hz; by_cases hl : lo ≤ r1
   · go_enter Tryz.func363, Tryz.ntmps363
     go_wp2_with fail; refine HP.out.mono ?_; rintro e w1 ⟨rfl, hX⟩; have hb1 := hX.cell hb; have hc1 := hX.cell hc; have hlt := lt_of_cell hc1; go_wp2; go_quiet (fail); go_wp2
     go_ret2; exact ⟨reads_above (by simp; omega), hX.trans (Joins.below_draws _ _ _)⟩
   · have hl2 : decide (lo ≤ r1) = false := by simpa using hl
     go_enter Tryz.func363, Tryz.ntmps363
     go_wp2_with fail; refine HP.out.mono ?_; rintro e w1 ⟨rfl, hX⟩; have hb1 := hX.cell hb; have hc1 := hX.cell hc; have hlt := lt_of_cell hc1; go_wp2; go_quiet (fail); go_wp2
     go_ret2; exact ⟨reads_above (by simp; omega), hX.trans (Joins.below_draws _ _ _)⟩
 · have hz2 : (r2 == 0) = false := by simpa using hz
   clear hz; go_enter Tryz.func363, Tryz.ntmps363
   go_wp2_with fail; refine HP.out.mono ?_; rintro e w1 ⟨rfl, hX⟩; have hb1 := hX.cell hb; have hc1 := hX.cell hc; have hlt := lt_of_cell hc1; go_wp2; go_quiet (fail); go_wp2
   go_ret2; exact ⟨reads_above (by rw [hz2]; rfl), hX.trans (Joins.below_draws _ _ _)⟩
theorem timed2_calls (c : Nat) (lo : Int) (s : List UInt8) (hs : s.length ≤ 1000000) (w : World) (hE : Env w) (hc : w.cell? ⟨c, 0, none⟩ = some (.int .i64 lo)) :
 Calls Tryz.prog 263 (#[.string ⟨s.toArray⟩, .pointer (some ⟨c, 0, none⟩)]) w fun e w' => Reads1 e (above lo (parseStamp s)) ∧ Ext w w' := by
 have HP := Lib.hid (parseStamp_calls s w (by omega)); obtain ⟨⟨r1, r2⟩, hr⟩ : ∃ r, parseStamp s = r := ⟨_, rfl⟩
 rw [hr] at HP ⊢; have HE := Lib.hid hE; clear hr hE; by_cases hz : r2 = 0
 · subst hz; by_cases hl : lo ≤ r1
   · go_enter Tryz.func263, Tryz.ntmps263
     go_wp2_with fail; refine HP.out.mono ?_; rintro e w1 ⟨rfl, hX⟩; have hc1 := hX.cell hc; have hlt := lt_of_cell hc1; go_wp2; go_quiet (fail); go_wp2
     go_ret2; exact ⟨reads_above (by simp; omega), hX.trans (Joins.below_draws _ _ _)⟩
   · have hl2 : decide (lo ≤ r1) = false := by simpa using hl
     go_enter Tryz.func263, Tryz.ntmps263
     go_wp2_with fail; refine HP.out.mono ?_; rintro e w1 ⟨rfl, hX⟩; have hc1 := hX.cell hc; have hlt := lt_of_cell hc1; go_wp2; go_quiet (fail); go_wp2
     go_ret2; exact ⟨reads_above (by simp; omega), hX.trans (Joins.below_draws _ _ _)⟩
 · have hz2 : (r2 == 0) = false := by simpa using hz
   clear hz; go_enter Tryz.func263, Tryz.ntmps263
   go_wp2_with fail; refine HP.out.mono ?_; rintro e w1 ⟨rfl, hX⟩; have hc1 := hX.cell hc; have hlt := lt_of_cell hc1; go_wp2; go_quiet (fail); go_wp2
   go_ret2; exact ⟨reads_above (by rw [hz2]; rfl), hX.trans (Joins.below_draws _ _ _)⟩
theorem priced1_calls (s : List UInt8) (hs : s.length ≤ 1000000) (w : World) (hE : Env w) :
 Calls Tryz.prog 361 (#[.string ⟨s.toArray⟩]) w fun e w' => Reads1 e (above (1 : Int) (parsePrice s)) ∧ Ext w w' := by
 have HP := Lib.hid (parsePrice_calls s w (by omega) hE); obtain ⟨⟨r1, r2⟩, hr⟩ : ∃ r, parsePrice s = r := ⟨_, rfl⟩
 rw [hr] at HP ⊢; have HE := Lib.hid hE; clear hr hE; by_cases hz : r2 = 0
 · subst hz; by_cases hl : (1 : Int) ≤ r1
   · go_enter Tryz.func361, Tryz.ntmps361
     go_wp2_with fail; refine HP.out.mono ?_; rintro e w1 ⟨rfl, hX⟩; go_wp2; go_ret2; exact ⟨reads_above (by simp; omega), hX⟩
   · have hl2 : decide ((1 : Int) ≤ r1) = false := by simpa using hl
     go_enter Tryz.func361, Tryz.ntmps361
     go_wp2_with fail; refine HP.out.mono ?_; rintro e w1 ⟨rfl, hX⟩; go_wp2; go_ret2; exact ⟨reads_above (by simp; omega), hX⟩
 · have hz2 : (r2 == 0) = false := by simpa using hz
   clear hz; go_enter Tryz.func361, Tryz.ntmps361
   go_wp2_with fail; refine HP.out.mono ?_; rintro e w1 ⟨rfl, hX⟩; go_wp2; go_ret2; exact ⟨reads_above (by rw [hz2]; rfl), hX⟩
end
section
open Go Go.RowKit
set_option maxHeartbeats 1600000
attribute [local go_sem] ba_get
theorem reads_date {s : List UInt8} {r : Int × Int} {e : Ending} {n : Int} {ok : Bool} (h : e = .returned (.tuple #[.int .i64 n, .bool ok])) (h1 : ok = (r.2 == 0 && s.length == 8 && (dayOf r.1).isSome)) (h2 : ok = true → n = r.1) : Reads1 e (dateIn s r) := by
 unfold dateIn; cases ok with
 | true => rw [if_pos h1.symm]; exact ⟨n, by rw [h]; rfl, fun x hx => (h2 rfl).trans (Option.some.inj hx)⟩
 | false => rw [if_neg (by rw [← h1]; decide)]; exact ⟨n, by rw [h]; rfl, fun x hx => by cases hx⟩
theorem date_calls (s : List UInt8) (hs : s.length ≤ 1000000) (w : World) (hE : Env w) : Calls Tryz.prog 280 #[.string ⟨s.toArray⟩] w fun e w' => Reads1 e (dateIn s (parseUint s 99991231)) ∧ Ext w w' := by
 have HP := Lib.hid (parseUint_calls s 99991231 w (by omega) hE); have hrange : (parseUint s 99991231).1 ≤ 9223372036854775807 := by
  by_cases h : (parseUint s 99991231).2 = 0
  · exact (parseUint_range h).2
  · unfold parseUint at h ⊢; split
    · decide
    · split
      · decide
      · rename_i h1 h2
        rw [if_neg h1, if_neg h2] at h; exact absurd rfl h
 obtain ⟨⟨r1, r2⟩, hr⟩ : ∃ r, parseUint s 99991231 = r := ⟨_, rfl⟩
 rw [hr] at HP hrange ⊢; simp only at hrange; clear hr hE; by_cases hz : r2 = 0
 · subst hz; by_cases hl : s.length = 8
   · have hl2 : ((s.length : Int) != 8) = false := by simp; omega
     have HL := Lib.hid hl; clear hl; have HS := Lib.hid fun w1 => start_calls r1 w1 hrange
     cases hd : dayOf r1 with
     | none =>
      have HD := Lib.hid hd; rw [hd] at HS; simp only [Option.getD_none, Option.isSome_none, Bool.false_eq_true, if_false] at HS; clear hd; go_enter Tryz.func280, Tryz.ntmps280
      go_wp2_with fail; refine HP.out.mono ?_; rintro e w1 ⟨rfl, hX⟩; go_wp2_with fail; refine (HS.out w1).mono ?_; rintro e w2 ⟨rfl, hX2⟩; go_wp2; go_ret2; exact ⟨reads_date rfl (by simp [HD.out]) (fun h => by first | rfl | cases h), hX.trans hX2⟩
     | some d =>
      have HD := Lib.hid hd; rw [hd] at HS; simp only [Option.getD_some, Option.isSome_some, if_true] at HS; clear hd; go_enter Tryz.func280, Tryz.ntmps280
      go_wp2_with fail; refine HP.out.mono ?_; rintro e w1 ⟨rfl, hX⟩; go_wp2_with fail; refine (HS.out w1).mono ?_; rintro e w2 ⟨rfl, hX2⟩; go_wp2; go_ret2; exact ⟨reads_date rfl (by simp [HD.out, HL.out]) (fun h => rfl), hX.trans hX2⟩
   · have hl2 : ((s.length : Int) != 8) = true := by simp; omega
     have HL := Lib.hid hl; clear hl; go_enter Tryz.func280, Tryz.ntmps280
     go_wp2_with fail; refine HP.out.mono ?_; rintro e w1 ⟨rfl, hX⟩; go_wp2; go_ret2; exact ⟨reads_date rfl (by simp [HL.out]) (fun h => by cases h), hX⟩
 · have hz2 : (r2 != 0) = true := by simpa using hz
   have HZ := Lib.hid hz; clear hz; go_enter Tryz.func280, Tryz.ntmps280
   go_wp2_with fail; refine HP.out.mono ?_; rintro e w1 ⟨rfl, hX⟩; go_wp2; go_ret2; exact ⟨reads_date rfl (by simp [HZ.out]) (fun h => by cases h), hX⟩
structure Words (w : World) (v : Value) (ws : List (List UInt8)) : Prop where
 is : ∃ b, v = .slice (some ⟨b, 0, none⟩) ws.length ws.length ∧ ∀ (j : Nat) (h : j < ws.length), w.cell? ⟨b, j, none⟩ = some (.string ⟨(ws[j]).toArray⟩)
theorem Words.ext {w w' : World} {v : Value} {ws : List (List UInt8)} (h : Words w v ws) (hE : Ext w w') : Words w' v ws := by
 obtain ⟨b, e, hc⟩ := h.is; exact ⟨b, e, fun j hj => hE.cell (hc j hj)⟩
theorem idxFromS_eq (s : List UInt8) : ∀ (ws : List (List UInt8)) (k : Nat), Lib.idxFromS (ws.map fun x => ByteArray.mk x.toArray) ⟨s.toArray⟩ k = match wordAt ws s with | some i => ((k + i : Nat) : Int) | none => -1
 | [], k => rfl
 | x :: ws, k => by
  have ih := idxFromS_eq s ws (k + 1); unfold wordAt at ih ⊢; rw [List.map_cons, List.findIdx?_cons]; unfold Lib.idxFromS; by_cases h : x = s
  · subst h; simp
  · have h1 : (x == s) = false := by simpa using h
    have h2 : ¬ ByteArray.mk x.toArray = ByteArray.mk s.toArray := by
     intro e; apply h
     have := congrArg (fun b : ByteArray => b.data.toList) e; simpa using this
    rw [if_neg h2, ih, h1]; cases List.findIdx? (fun x => x == s) ws with
    | none => rfl
    | some i =>
     show ((k + 1 + i : Nat) : Int) = ((k + (i + 1) : Nat) : Int)
     omega
theorem idxOfS_eq (s : List UInt8) (ws : List (List UInt8)) : Lib.idxOfS (ws.map fun x => ByteArray.mk x.toArray) ⟨s.toArray⟩ = match wordAt ws s with | some i => (i : Int) | none => -1 := by
 unfold Lib.idxOfS; rw [idxFromS_eq]; cases wordAt ws s with
 | none => rfl
 | some i => simp
theorem coded1_calls (b c : Nat) (first : Int) (ws : List (List UInt8)) (h0 : 0 ≤ first) (h1 : first ≤ 1) (hl : ws.length ≤ 100) (n : Int) (hp : (Form.coded first ws).printable n = true) (v : Value) (w : World)
 (hb : w.cell? ⟨b, 0, none⟩ = some v) (hv : Words w v ws) (hc : w.cell? ⟨c, 0, none⟩ = some (.int .i64 first)) :
 Calls Tryz.prog 250 #[.int .i64 n, .pointer (some ⟨b, 0, none⟩), .pointer (some ⟨c, 0, none⟩)] w fun e w' => e = .returned (.string ⟨((Form.coded first ws).printN n).toArray⟩) ∧ Ext w w' := by
 simp only [Form.printable, Bool.and_eq_true, decide_eq_true_eq] at hp; obtain ⟨i, hi⟩ : ∃ i : Nat, n = first + i := ⟨(n - first).toNat, by omega⟩
 subst hi; have hil : i < ws.length := by omega
 have hpr : (Form.coded first ws).printN (first + i) = ws[i] := by
  show ws.getD (first + (i : Int) - first).toNat [] = ws[i]
  rw [show (first + (i : Int) - first).toNat = i by omega]; simp [hil]
 rw [hpr]; obtain ⟨wb, rfl, hcells⟩ := hv.is; have hcell := hcells i hil; generalize ws[i] = x at *; have HI := Lib.hid hil; have hil2 : (i : Int) < (ws.length : Int) := by omega
 have hsub : first + (i : Int) - first = (i : Int) := by omega
 have hl2 : (ws.length : Int) ≤ 100 := by omega
 have hin : (i : Int) ≤ 100 := by omega
 clear hpr hcells hp hl; generalize ws.length = L at *; go_enter Tryz.func250, Tryz.ntmps250
 go_wp2; go_ret; exact ⟨rfl, Ext.refl _⟩
theorem coded2_calls (b c : Nat) (first : Int) (ws : List (List UInt8)) (h0 : 0 ≤ first) (h1 : first ≤ 1) (hl : ws.length ≤ 100) (s : List UInt8) (v : Value) (w : World)
 (hb : w.cell? ⟨b, 0, none⟩ = some v) (hv : Words w v ws) (hc : w.cell? ⟨c, 0, none⟩ = some (.int .i64 first)) :
 Calls Tryz.prog 251 #[.string ⟨s.toArray⟩, .pointer (some ⟨b, 0, none⟩), .pointer (some ⟨c, 0, none⟩)] w fun e w' => Reads1 e ((Form.coded first ws).readN s) ∧ Ext w w' := by
 obtain ⟨wb, rfl, hcells⟩ := hv.is; have hix := Tryz.slices_Index_string wb 0 ws.length ws.length (ws.map fun x => ByteArray.mk x.toArray) ⟨s.toArray⟩ w (by simp) (by omega) (fun j hj => by
  have hj' : j < ws.length := by simpa using hj
  rw [Nat.zero_add, hcells j hj']; simp [hj'])
 rw [List.take_of_length_le (by simp), idxOfS_eq] at hix; have HIX := Lib.hid hix; have hrd : (Form.coded first ws).readN s = (wordAt ws s).map fun (i : Nat) => (i : Int) + first := rfl
 rw [hrd]; have hlt : ∀ i, wordAt ws s = some i → i < ws.length := fun i hi => (List.findIdx?_eq_some_iff_getElem.1 hi).1
 have HLT := Lib.hid hlt; clear hix hcells hrd hlt hv; generalize wordAt ws s = o at *; generalize ws.length = L at *; cases o with
 | none =>
  simp only at HIX; clear HLT; go_enter Tryz.func251, Tryz.ntmps251
  go_wp2_with fail; refine HIX.out.mono ?_; rintro e w1 ⟨rfl, rfl⟩; go_wp2; go_ret2; exact ⟨⟨_, rfl, fun x hx => by cases hx⟩, Ext.refl _⟩
 | some i =>
  simp only at HIX; have hi := HLT.out i rfl; have hi2 : (i : Int) ≤ 100 := by omega
  clear HLT hi; go_enter Tryz.func251, Tryz.ntmps251
  go_wp2_with fail; refine HIX.out.mono ?_; rintro e w1 ⟨rfl, rfl⟩; go_wp2; go_ret2; exact ⟨⟨_, rfl, fun x hx => by simpa using hx⟩, Ext.refl _⟩
theorem texts1 (q k b : Nat) (hk : tys[k]? = some .S) (hq : PtrFn q k) (g : Nat) (m : Msg) (w : World) (hM : MsgAt w g m) (ha : w.cell? ⟨b, 0, none⟩ = some (.func (.func q) #[] #[])) :
 Calls Tryz.prog 253 #[.pointer (some ⟨g, 0, none⟩), .pointer (some ⟨b, 0, none⟩)] w fun e w' => e = .returned (.bool (there m k)) ∧ Ext w w' := by
 rw [there_str hM.wt hk]; have hc := hM.cell (ty_lt hk); rw [cellAt_str hM.wt hk] at hc; have he := hq.enters; have HC := Lib.hid (hq.calls g); clear hq hM; generalize gs m k = x at *; unfold Enters at he; go_enter Tryz.func253, Tryz.ntmps253
 go_wp2_with (first | (refine (HC.out _).mono ?_; rintro e w1 ⟨rfl, rfl⟩)); go_ret; refine ⟨?_, Ext.refl _⟩; cases x <;> simp
theorem texts2 (q k b : Nat) (hk : tys[k]? = some .S) (hq : PtrFn q k) (g : Nat) (m : Msg) (w : World) (hM : MsgAt w g m) (ha : w.cell? ⟨b, 0, none⟩ = some (.func (.func q) #[] #[])) :
 Calls Tryz.prog 254 #[.pointer (some ⟨g, 0, none⟩), .pointer (some ⟨b, 0, none⟩)] w fun e w' => e = .returned (.string ⟨(gs m k).toArray⟩) ∧ Ext w w' := by
 have hc := hM.cell (ty_lt hk); rw [cellAt_str hM.wt hk] at hc; have he := hq.enters; have HC := Lib.hid (hq.calls g); clear hq hM; generalize gs m k = x at *; unfold Enters at he; go_enter Tryz.func254, Tryz.ntmps254
 go_wp2_with (first | (refine (HC.out _).mono ?_; rintro e w1 ⟨rfl, rfl⟩)); go_ret; exact ⟨rfl, Ext.refl _⟩
theorem texts3 (q k b c fm : Nat) (p : What) (hk : tys[k]? = some .S) (hq : PtrFn q k) (hp : FnStr fm (mayText p)) (g : Nat) (m : Msg) (s : List UInt8) (hs : s.length ≤ 1000000) (w : World) (hM : MsgAt w g m)
 (hb : w.cell? ⟨c, 0, none⟩ = some (.func (.func fm) #[] #[])) (ha : w.cell? ⟨b, 0, none⟩ = some (.func (.func q) #[] #[])) :
 Calls Tryz.prog 255 #[.pointer (some ⟨g, 0, none⟩), .string ⟨s.toArray⟩, .pointer (some ⟨c, 0, none⟩), .pointer (some ⟨b, 0, none⟩)] w fun e w' =>
  e = .returned (.bool ((Form.text p).read s).isSome) ∧ MsgAt w' g (putRead m k ((Form.text p).read s)) ∧ w.grownBy w' (some g) := by
 have hrd : (Form.text p).read s = if s.isEmpty || !mayText p s then none else some (.S s) := rfl
 rw [hrd]; have he := hq.enters; have hpe := hp.enters; have HC := Lib.hid (hq.calls g); have HP := Lib.hid fun w1 => hp.calls s w1 (by omega)
 have HM := Lib.hid hM; clear hq hM hp hrd; unfold Enters at he hpe; generalize mayText p s = ok at *; by_cases h0 : s = []
 · subst h0; simp only [List.isEmpty_nil, Bool.true_or, if_true, Option.isSome_none, putRead]; go_enter Tryz.func255, Tryz.ntmps255
   go_wp2; go_ret; exact ⟨rfl, HM.out, turned_ext (Ext.refl _) _⟩
 · have hne : s.isEmpty = false := by simpa using h0
   have hne2 : (!s.isEmpty) = true := by rw [hne]; rfl
   rw [hne]; simp only [Bool.false_or]; cases ok with
   | false =>
    simp only [Bool.not_false, if_true, Option.isSome_none, putRead]; go_enter Tryz.func255, Tryz.ntmps255
    go_wp2_with fail; refine (HP.out w).mono ?_; rintro e w1 ⟨rfl, hX⟩; go_wp2; go_ret; exact ⟨rfl, HM.out.ext hX, turned_ext hX _⟩
   | true =>
    simp only [Bool.not_true, Bool.false_eq_true, if_false, Option.isSome_some, putRead]; go_enter Tryz.func255, Tryz.ntmps255
    go_wp2_with fail; refine (HP.out w).mono ?_; rintro e w1 ⟨rfl, hX⟩; have hM1 := HM.out.ext hX; have hc := hM1.cell (ty_lt hk); have hz := hM1.frozen k; have ha1 := hX.cell ha; have hset := hM1.put (k := k) (c := .S s) (hM1.wt.set hk (by unfold Cell.ok; simp only [decide_eq_true_eq]; omega)); have HSET := Lib.hid hset; clear hM1 hset; go_wp2_with (first | (refine (HC.out _).mono ?_; rintro e w2 ⟨rfl, rfl⟩)); go_ret; exact ⟨rfl, HSET.out, turned_trans (turned_ext hX _) (turned_setCell _ _ _ _)⟩
theorem flags1 (q k b : Nat) (hk : tys[k]? = some .B) (hq : PtrFn q k) (g : Nat) (m : Msg) (w : World) (hM : MsgAt w g m) (ha : w.cell? ⟨b, 0, none⟩ = some (.func (.func q) #[] #[])) :
 Calls Tryz.prog 257 #[.pointer (some ⟨g, 0, none⟩), .pointer (some ⟨b, 0, none⟩)] w fun e w' => e = .returned (.bool (there m k)) ∧ Ext w w' := by
 rw [there_bool hM.wt hk]; have hc := hM.cell (ty_lt hk); rw [cellAt_bool hM.wt hk] at hc; have he := hq.enters; have HC := Lib.hid (hq.calls g); clear hq hM; generalize gb m k = x at *; unfold Enters at he; go_enter Tryz.func257, Tryz.ntmps257
 go_wp2_with (first | (refine (HC.out _).mono ?_; rintro e w1 ⟨rfl, rfl⟩)); go_ret; exact ⟨rfl, Ext.refl _⟩
theorem flags2 (v : Value) (w : World) : Calls Tryz.prog 258 #[v] w fun e w' => e = .returned (.string ⟨#[89]⟩) ∧ Ext w w' := by
 go_enter Tryz.func258, Tryz.ntmps258
 go_wp2; go_ret; exact ⟨rfl, Ext.refl _⟩
theorem flags3 (q k b : Nat) (hk : tys[k]? = some .B) (hq : PtrFn q k) (g : Nat) (m : Msg) (s : List UInt8) (w : World) (hM : MsgAt w g m) (ha : w.cell? ⟨b, 0, none⟩ = some (.func (.func q) #[] #[])) :
 Calls Tryz.prog 259 #[.pointer (some ⟨g, 0, none⟩), .string ⟨s.toArray⟩, .pointer (some ⟨b, 0, none⟩)] w fun e w' =>
  e = .returned (.bool (Form.flag.read s).isSome) ∧ MsgAt w' g (putRead m k (Form.flag.read s)) ∧ w.grownBy w' (some g) := by
 have hrd : Form.flag.read s = if s == [89] then some (.B true) else if s == [78] then some (.B false) else none := rfl
 rw [hrd]; have he := hq.enters; have HC := Lib.hid (hq.calls g); have HM := Lib.hid hM; have hc := hM.cell (ty_lt hk); have hz := hM.frozen k; have put : ∀ c : Bool, RowKit.Hid (MsgAt (w.setCell ⟨g, k, none⟩ (.bool c)) g (m.set k (.B c))) := fun c => Lib.hid (hM.put (k := k) (c := .B c) (hM.wt.set hk rfl))
 have hp1 := put true; have hp2 := put false; clear hq hM hrd put; unfold Enters at he; by_cases h1 : s = [89]
 · subst h1; go_enter Tryz.func259, Tryz.ntmps259
   go_wp2_with (first | (refine (HC.out _).mono ?_; rintro e w2 ⟨rfl, rfl⟩)); go_ret; exact ⟨rfl, hp1.out, turned_setCell _ _ _ _⟩
 · have n1 : (s == [89]) = false := by simpa using h1
   by_cases h2 : s = [78]
   · subst h2; go_enter Tryz.func259, Tryz.ntmps259
     go_wp2_with (first | (refine (HC.out _).mono ?_; rintro e w2 ⟨rfl, rfl⟩)); go_ret; exact ⟨rfl, hp2.out, turned_setCell _ _ _ _⟩
   · have n2 : (s == [78]) = false := by simpa using h2
     rw [n1, n2]; simp only [Bool.false_eq_true, if_false, Option.isSome_none, putRead]; go_enter Tryz.func259, Tryz.ntmps259
     go_wp2; go_ret; exact ⟨rfl, HM.out, turned_ext (Ext.refl _) _⟩
end
end Go.Proofs.YtdmjinlgdkgoiaaGreatDoor
