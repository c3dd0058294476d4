/- Of the layer fix: Spoilt, RowSpoilt. -/
import Derived.Test.YtdmjinlgdkgoiaaGreatDoorFmAa
import Derived.Test.YtdmjinlgdkgoiaaGreatDoorFmAc
import Derived.Test.YtdmjinlgdkgoiaaGreatDoorFmAv
import Derived.Test.YtdmjinlgdkgoiaaGreatDoorFmAw
import Derived.Test.YtdmjinlgdkgoiaaGreatDoorFmBc
set_option linter.unusedVariables false
set_option linter.unusedSimpArgs false
set_option maxRecDepth 100000
namespace Go.Proofs.YtdmjinlgdkgoiaaGreatDoor
section
open Go Go.RowKit
set_option maxHeartbeats 1600000
attribute [local go_sem ↓] loadVarMsg buildMsg0 eqMsg
attribute [local go_sem] ba_get loadRowMsg rowOf_new rowOf_old rowOf_drew
theorem turn_other {b : UInt8} {x : Int} (h0 : 0 ≤ x) (h1 : x < 255) : b ≠ UInt8.ofNat (((b.toNat : Int) + 1 + x).toNat % 256) ∧ ((UInt8.ofNat (((b.toNat : Int) + 1 + x).toNat % 256)).toNat : Int) = ((b.toNat : Int) + 1 + x) % 256 := by
  have hb : b.toNat < 256 := b.toNat_lt; have h2 : (UInt8.ofNat (((b.toNat : Int) + 1 + x).toNat % 256)).toNat = ((b.toNat : Int) + 1 + x).toNat % 256 := by
    rw [UInt8.toNat_ofNat']; omega
  refine ⟨fun e => ?_, by rw [h2]; omega⟩; have h3 := congrArg UInt8.toNat e; rw [h2] at h3; omega
theorem wrap_i64 {n : Int} (h : 0 ≤ n ∧ n < 1000) : IntKind.wrap .i64 n = n := by
  have h1 : n % (18446744073709551616 : Int) = n := Int.emod_eq_of_lt (by omega) (by omega); have h2 : IntKind.wrap .i64 n = if (true && decide (n % (18446744073709551616 : Int) ≥ 9223372036854775808)) = true then n % (18446744073709551616 : Int) - 18446744073709551616 else n % (18446744073709551616 : Int) := rfl
  rw [h2, h1, if_neg (by simp; omega)]
theorem wrap_u8 {n : Int} : IntKind.wrap .u8 n = n % 256 := rfl
structure Spoil (g : Nat) (o : Obj) (w w' : World) : Prop where
  turn : TurnR g o w w'
  is : w'.heap[g]? = some o
theorem frozen_own {w : World} {g k : Nat} {cur : Array Value} {t : TypeId} {fz : Nat × Nat} (hb : w.heap[g]? = some (.cells cur t fz)) (hf : fz.2 = 0 ∨ cur.size ≤ fz.1) (hk : k < cur.size) : w.frozen? ⟨g, k, none⟩ = false := by
  obtain ⟨lo, hi⟩ := fz; simp only at hf; simp only [World.frozen?, hb]; rw [Bool.eq_false_iff]; simp only [ne_eq, Bool.and_eq_true, decide_eq_true_eq]; omega
theorem set_own {w : World} {g k : Nat} {cur : Array Value} {t : TypeId} {fz : Nat × Nat} {v : Value} (hb : w.heap[g]? = some (.cells cur t fz)) : (w.setCell ⟨g, k, none⟩ v).heap[g]? = some (.cells (cur.setIfInBounds k v) t fz) := by
  rw [setCell_eq_setRow w g k cur t fz v hb]; exact setRow_heap w g cur _ t _ hb
theorem spoil_set {w w' : World} {g k : Nat} {cur : Array Value} {fz : Nat × Nat} {v : Value} (hE : Ext w w') (hb : w.heap[g]? = some (.cells cur 5 fz)) : Spoil g (.cells (cur.setIfInBounds k v) 5 fz) w (w'.setCell ⟨g, k, none⟩ v) := by
  have h2 := set_own (k := k) (v := v) (hE.heap hb); exact ⟨⟨hE.os, hE.tape, hE.output, by rw [World.size_setCell]; exact hE.size, fun j hj hn => (Below.heap_setCell _ _ _ _ hn).trans (hE.block j hj), fun _ => Or.inr h2⟩, h2⟩
theorem split_nil {l : List Fld} (h : split [] = .inl l) : l = [] := by
  have h1 : split ([] : List UInt8) = .inl [] ∨ ∃ e, split ([] : List UInt8) = .inr e := by
    first | exact .inl rfl | exact .inr ⟨_, rfl⟩
  rcases h1 with h1 | ⟨e, h1⟩
  · rw [h1] at h; exact (Sum.inl.inj h).symm
  · rw [h1] at h; cases h
theorem reads_set {w : World} {g : Nat} {cur : Array Value} {fz : Nat × Nat} {s : List UInt8} {k : Nat} {c : UInt8} (hb : w.heap[g]? = some (.cells (cur.setIfInBounds k (.int .u8 (c.toNat : Int))) 5 fz)) (ht : cur.toList.take s.length = cellsOf s) (hn : s.length ≤ cur.size) (hk : k < s.length) :
    Reads w (some ⟨g, 0, none⟩) (s.set k c) := ⟨fun _ => ⟨_, rfl, fun i hi => by
  have hi2 : i < s.length := by simpa using hi
  have hic : i < cur.size := by omega
  have e3 : (⟨g, 0, none⟩ : Addr).add i = ⟨g, i, none⟩ := by unfold Addr.add; split <;> simp_all
  rw [e3]; have hcur : cur[i] = .int .u8 ((s[i]).toNat : Int) := by
    have h1 : (cur.toList.take s.length)[i]? = some cur[i] := by
      rw [List.getElem?_take, if_pos hi2]; simp [hic]
    rw [ht, cellsOf_at hi2] at h1; exact (Option.some.inj h1).symm
  simp only [World.cell?, hb]; by_cases hik : i = k
  · subst hik; simp [hic]
  · simp [hic, hik, hcur, Ne.symm hik, List.getElem_set, Array.getElem?_setIfInBounds]⟩⟩
theorem fixSpoilt_calls (m : Msg) (hm : WT m) (at_ with_ : Int) (w : World) (hE : Env w) (hg : w.cell? ⟨0, 0, none⟩ = some (.iface 249 (.agg #[.pointer (some ⟨10, 31, none⟩)]))) (hr : -9223372036854775808 ≤ at_ ∧ at_ ≤ 9223372036854775807) (hr2 : -9223372036854775808 ≤ with_ ∧ with_ ≤ 9223372036854775807) :
    Calls Tryz.prog 10 #[.agg (msgV m), .int .i64 at_, .int .i64 with_] w fun e w' => e = .returned (.bool true) ∧ Ext w w' := by
  have hal : ∀ w3 : World, Ext w3 (w3.alloc (.cells #[.int .i64 0, .string ⟨#[]⟩, .string ⟨#[]⟩, .int .i64 0, .bool false, .int .i64 0, .int .i64 0, .int .i64 0, .bool false, .string ⟨#[]⟩, .int .i64 0, .int .i64 0, .int .i64 0, .bool false, .int .i64 0, .int .i64 0, .int .i64 0, .int .i64 0, .string ⟨#[]⟩, .string ⟨#[]⟩, .string ⟨#[]⟩, .string ⟨#[]⟩, .string ⟨#[]⟩, .int .i64 0, .int .i64 0, .int .i64 0, .int .i64 0, .int .i64 0, .int .i64 0, .int .i64 0, .int .i64 0, .int .i64 0, .int .i64 0, .int .i64 0, .int .i64 0, .int .i64 0, .int .i64 0, .int .i64 0, .int .i64 0, .int .i64 0, .int .i64 0, .int .i64 0] 23)) ∧ (w3.alloc (.cells #[.int .i64 0, .string ⟨#[]⟩, .string ⟨#[]⟩, .int .i64 0, .bool false, .int .i64 0, .int .i64 0, .int .i64 0, .bool false, .string ⟨#[]⟩, .int .i64 0, .int .i64 0, .int .i64 0, .bool false, .int .i64 0, .int .i64 0, .int .i64 0, .int .i64 0, .string ⟨#[]⟩, .string ⟨#[]⟩, .string ⟨#[]⟩, .string ⟨#[]⟩, .string ⟨#[]⟩, .int .i64 0, .int .i64 0, .int .i64 0, .int .i64 0, .int .i64 0, .int .i64 0, .int .i64 0, .int .i64 0, .int .i64 0, .int .i64 0, .int .i64 0, .int .i64 0, .int .i64 0, .int .i64 0, .int .i64 0, .int .i64 0, .int .i64 0, .int .i64 0, .int .i64 0] 23)).heap[w3.heap.size]? = some (.cells #[.int .i64 0, .string ⟨#[]⟩, .string ⟨#[]⟩, .int .i64 0, .bool false, .int .i64 0, .int .i64 0, .int .i64 0, .bool false, .string ⟨#[]⟩, .int .i64 0, .int .i64 0, .int .i64 0, .bool false, .int .i64 0, .int .i64 0, .int .i64 0, .int .i64 0, .string ⟨#[]⟩, .string ⟨#[]⟩, .string ⟨#[]⟩, .string ⟨#[]⟩, .string ⟨#[]⟩, .int .i64 0, .int .i64 0, .int .i64 0, .int .i64 0, .int .i64 0, .int .i64 0, .int .i64 0, .int .i64 0, .int .i64 0, .int .i64 0, .int .i64 0, .int .i64 0, .int .i64 0, .int .i64 0, .int .i64 0, .int .i64 0, .int .i64 0, .int .i64 0, .int .i64 0] 23) := allocSays
  have HALLOC := Lib.hid hal; have HE := Lib.hid hE; have HG := Lib.hid hg; have HWT := Lib.hid hm; have HNO : RowKit.Hid (WT noMsg) := Lib.hid (by decide); have HX0 : RowKit.Hid (Ext w (w.alloc (.cells (msgV m) 23))) := Lib.hid ((Ext.refl w).alloc _); have HM0 := Lib.hid (heap_alloc_new w (.cells (msgV m) 23)); have HENC := Lib.hid (fun w1 (h : Ext w w1) => encode_calls m hm w1 (HE.out.ext h)); have HR1 := Lib.hid hr; have HR2 := Lib.hid hr2; have hs := msgV_size hm; clear hg hr hr2; by_cases h0 : (valid m).1 = 0
  · obtain ⟨he1, he2, he3⟩ := encode_good hm h0; have h3 := fieldsOf_three hm h0; rw [he1] at HENC; have hpos : 0 < (frameOf (fieldsOf m)).length := by
      rcases Nat.eq_zero_or_pos (frameOf (fieldsOf m)).length with h | h
      · rw [List.length_eq_zero_iff.1 h] at he2; have h9 : split [] = .inl [] ∨ ∃ e, split [] = .inr e := by
          cases hq : split ([] : List UInt8) with
          | inl l => exact .inl (by rw [show l = [] from split_nil hq])
          | inr e => exact .inr ⟨e, rfl⟩
        rcases h9 with h9 | ⟨e, h9⟩
        · rw [h9] at he2; have := Sum.inl.inj he2; rw [← this] at h3; simp at h3
        · rw [h9] at he2; cases he2
      · exact h
    have hsp := fun {k : Nat} {c : UInt8} (hk : k < (frameOf (fieldsOf m)).length) (hc : (frameOf (fieldsOf m))[k] ≠ c) => And.intro (split_spoilt hk hc) (decode_spoilt hk hc).1
    obtain ⟨fr, hfr⟩ : ∃ q, frameOf (fieldsOf m) = q := ⟨_, rfl⟩
    rw [hfr] at HENC he3 hpos; simp only [hfr] at hsp; have HLE := Lib.hid he3; obtain ⟨L, hL⟩ : ∃ n, fr.length = n := ⟨_, rfl⟩
    have HL := Lib.hid hL; have hp1 := pickOf_lt (c := at_) (n := (L : Int)) (by omega); have hp2 := pickOf_lt (c := with_) (n := 255) (by omega); obtain ⟨k, hk⟩ : ∃ p : Nat, pickOf at_ (L : Int) = p := ⟨(pickOf at_ (L : Int)).toNat, by omega⟩
    have hkl : k < fr.length := by omega
    obtain ⟨x, hx⟩ : ∃ q, pickOf with_ 255 = q := ⟨_, rfl⟩
    rw [hx] at hp2; obtain ⟨b0, hb0⟩ : ∃ q, fr[k] = q := ⟨_, rfl⟩
    obtain ⟨h5, h6⟩ := turn_other (b := b0) hp2.1 hp2.2; obtain ⟨c, hc⟩ : ∃ q, UInt8.ofNat (((b0.toNat : Int) + 1 + x).toNat % 256) = q := ⟨_, rfl⟩
    rw [hc] at h5 h6; obtain ⟨⟨es, hes⟩, ed, hed⟩ := hsp hkl (by rw [hb0]; exact h5); have hb8 : b0.toNat < 256 := b0.toNat_lt; have HPK := Lib.hid hk; have HPX := Lib.hid hx; have HC := Lib.hid h6; have HES := Lib.hid hes; have HED := Lib.hid hed; have HKL := Lib.hid hkl; have HB0 := Lib.hid hb0; have HX12 : RowKit.Hid ((0 ≤ x ∧ x < 255) ∧ b0.toNat < 256) := Lib.hid ⟨hp2, hb8⟩; have hl1 : (L : Int) ≤ 1024 := by omega
    have hl0 : 0 < (L : Int) := by omega
    have hkL : (k : Int) < (L : Int) := by omega
    clear h0 he1 he2 he3 hm hE hal h3 hfr hsp hL hp1 hk hx hb0 h5 h6 hc hes hed hpos hp2 hb8; go_enter Tryz.func10, Tryz.ntmps10
    go_wp2_with fail; refine (shown_calls _ (HE.out.ext HX0.out)).mono ?_; rintro e w1 ⟨rfl, hE1⟩; have HX1 := Lib.hid (HX0.out.trans hE1); have HM1 := Lib.hid (hE1.heap HM0.out); have hrow := rowOf_blk HM1.out; clear hE1; go_wp2_with fail; refine (HENC.out _ HX1.out).mono ?_; rintro e w3 ⟨⟨v, rfl, hown⟩, hE3⟩; have hown : Own w3 w1.heap.size 5 v fr := hown; obtain ⟨g, cap, cur, fz, rfl, hbg, hgh, hfz, hnc, hcm, hcs, htake⟩ := hown.is; have HX3 := Lib.hid (HX1.out.trans hE3); rw [HL.out] at hnc ⊢; have HGH := Lib.hid hgh; have HFZ := Lib.hid hfz; have HCS : RowKit.Hid (L ≤ cap ∧ cap ≤ maxLen ∧ cur.size = cap) := Lib.hid ⟨hnc, hcm, hcs⟩; have HTK := Lib.hid htake; have HBG : RowKit.Hid (w.heap.size ≤ g) := Lib.hid (by have := HX1.out.size; omega); have HCELL : RowKit.Hid (w3.cell? ⟨g, k, none⟩ = some (.int .u8 (b0.toNat : Int))) := Lib.hid (by rw [← HB0.out]; exact hown.cells rfl k HKL.out); clear hown hE3 hrow hgh hfz hnc hcm hcs htake hbg; go_wp2_with fail; refine (pick_calls at_ _ _ HR1.out.1 HR1.out.2 (by omega) (by omega)).mono ?_; rintro e w4 ⟨rfl, rfl⟩; rw [HPK.out]; go_wp2_with fail
    refine wp_region_turn (fun _ => by kernel_rfl) 13 (fun w'' => Spoil g (.cells (cur.setIfInBounds k (.int .u8 (c.toNat : Int))) 5 fz) w4 w'') [some (.slice (some ⟨g, 0, none⟩) L cap), some (.int .i64 k), some (.slice (some ⟨g, 0, none⟩) L cap), some (.int .i64 k), some (.pointer (some ⟨g, k, none⟩)), some (.int .u8 (b0.toNat : Int)), some (.int .i64 (b0.toNat : Int)), some (.int .i64 ((b0.toNat : Int) + 1)), some (.int .i64 with_), some (.int .i64 x), some (.int .i64 ((b0.toNat : Int) + 1 + x)), some (.int .u8 (c.toNat : Int)), some (.pointer (some ⟨g, k, none⟩)), none] (by kernel_rfl) ?_ (by decide) ?_
    · refine And.intro ?_ (And.intro ?_ (And.intro ?_ (And.intro ?_ (And.intro ?_ (And.intro ?_ (And.intro ?_ (And.intro ?_ (And.intro ?_ (And.intro ?_ (And.intro ?_ (And.intro ?_ (And.intro ?_ (And.intro ?_ (True.intro))))))))))))))
      · intro ρ w' hB hD; have e8 : ρ (.tmp 8) = _ := hB (.tmp 8) rfl; clear hB hD; refine ⟨fun hE => ?_, fun hno => absurd (show true = false from hno) (by decide)⟩; refine .inl ⟨rfl, ?_⟩; unfold Gives; go_simp; first | done | exact xr0 | exact xr1 | exact hS | exact ⟨hS, rfl⟩ | exact ⟨Ext.refl _, trivial⟩ | exact ⟨hS, trivial⟩
      · intro ρ w' hB hD; have e10 : ρ (.tmp 10) = _ := hB (.tmp 10) rfl; clear hB hD; refine ⟨fun hE => ?_, fun hno => absurd (show true = false from hno) (by decide)⟩; refine .inl ⟨rfl, ?_⟩; unfold Gives; go_simp; first | done | exact xr0 | exact xr1 | exact hS | exact ⟨hS, rfl⟩ | exact ⟨Ext.refl _, trivial⟩ | exact ⟨hS, trivial⟩
      · intro ρ w' hB hD; have e8 : ρ (.tmp 8) = _ := hB (.tmp 8) rfl; clear hB hD; refine ⟨fun hE => ?_, fun hno => absurd (show true = false from hno) (by decide)⟩; refine .inl ⟨rfl, ?_⟩; unfold Gives; go_simp; first | done | exact xr0 | exact xr1 | exact hS | exact ⟨hS, rfl⟩ | exact ⟨Ext.refl _, trivial⟩ | exact ⟨hS, trivial⟩
      · intro ρ w' hB hD; have e10 : ρ (.tmp 10) = _ := hB (.tmp 10) rfl; clear hB hD; refine ⟨fun hE => ?_, fun hno => absurd (show true = false from hno) (by decide)⟩; refine .inl ⟨rfl, ?_⟩; unfold Gives; go_simp; first | done | exact xr0 | exact xr1 | exact hS | exact ⟨hS, rfl⟩ | exact ⟨Ext.refl _, trivial⟩ | exact ⟨hS, trivial⟩
      · intro ρ w' hB hD; have e35 : ρ (.tmp 35) = .slice (some ⟨g, 0, none⟩) L cap := hD 2 35 rfl rfl; have e36 : ρ (.tmp 36) = .int .i64 k := hD 3 36 rfl rfl; clear hB hD; refine ⟨fun hE => ?_, fun hno => absurd (show true = false from hno) (by decide)⟩; have h1 : (k : Int) < (L : Int) := by have := HKL.out; have := HL.out; omega
        have h2 := HX12.out; refine .inl ⟨rfl, ?_⟩; unfold Gives; go_simp; first | done | exact xr0 | exact xr1 | exact hS | exact ⟨hS, rfl⟩ | exact ⟨Ext.refl _, trivial⟩ | exact ⟨hS, trivial⟩
      · intro ρ w' hB hD; have e37 : ρ (.tmp 37) = .pointer (some ⟨g, k, none⟩) := hD 4 37 rfl rfl; clear hB hD; refine ⟨fun hE => ?_, fun hno => absurd (show true = false from hno) (by decide)⟩; have q0 := hE.cell HCELL.out; refine .inl ⟨rfl, ?_⟩; unfold Gives; go_simp; first | done | exact xr0 | exact xr1 | exact hS | exact ⟨hS, rfl⟩ | exact ⟨Ext.refl _, trivial⟩ | exact ⟨hS, trivial⟩
      · intro ρ w' hB hD; have e38 : ρ (.tmp 38) = .int .u8 (b0.toNat : Int) := hD 5 38 rfl rfl; clear hB hD; refine ⟨fun hE => ?_, fun hno => absurd (show true = false from hno) (by decide)⟩; have h2 := HX12.out.2; refine .inl ⟨rfl, ?_⟩; unfold Gives; go_simp; first | done | exact ⟨Ext.refl _, rfl⟩ | (refine ⟨Ext.refl _, ?_⟩; show Value.int .i64 (IntKind.wrap .i64 _) = _; rw [wrap_i64 ⟨by omega, by omega⟩])
      · intro ρ w' hB hD; have ec : ∀ c, ρ (.const c) = c := fun c => hB (.const c) rfl
        have e39 : ρ (.tmp 39) = .int .i64 (b0.toNat : Int) := hD 6 39 rfl rfl; clear hB hD; refine ⟨fun hE => ?_, fun hno => absurd (show true = false from hno) (by decide)⟩; have h2 := HX12.out.2; refine .inl ⟨rfl, ?_⟩; unfold Gives; go_simp; first | done | exact ⟨Ext.refl _, rfl⟩ | (refine ⟨Ext.refl _, ?_⟩; show Value.int .i64 (IntKind.wrap .i64 _) = _; rw [wrap_i64 ⟨by omega, by omega⟩])
      · intro ρ w' hB hD; have e2 : ρ (.tmp 2) = _ := hB (.tmp 2) rfl; clear hB hD; refine ⟨fun hE => ?_, fun hno => absurd (show true = false from hno) (by decide)⟩; refine .inl ⟨rfl, ?_⟩; unfold Gives; go_simp; first | done | exact xr0 | exact xr1 | exact hS | exact ⟨hS, rfl⟩ | exact ⟨Ext.refl _, trivial⟩ | exact ⟨hS, trivial⟩
      · intro ρ w' hB hD; have ec : ∀ c, ρ (.const c) = c := fun c => hB (.const c) rfl
        have hB0 := fun f => hB (.func f) rfl
        have e41 : ρ (.tmp 41) = .int .i64 with_ := hD 8 41 rfl rfl; clear hB hD; refine ⟨fun hE => ?_, fun hno => absurd (show true = false from hno) (by decide)⟩; refine .inl ⟨rfl, ?_⟩; refine gives_call ent_outcrylaw05_pick (hB0 _) ?_; simp only [List.map_cons, List.map_nil, ec, e41]; refine (pick_calls with_ 255 w' HR2.out.1 HR2.out.2 (by omega) (by omega)).mono ?_; rintro e w'' ⟨rfl, rfl⟩; rw [HPX.out]; exact ⟨_, rfl, Ext.refl _, rfl⟩
      · intro ρ w' hB hD; have e40 : ρ (.tmp 40) = .int .i64 ((b0.toNat : Int) + 1) := hD 7 40 rfl rfl; have e42 : ρ (.tmp 42) = .int .i64 x := hD 9 42 rfl rfl; clear hB hD; refine ⟨fun hE => ?_, fun hno => absurd (show true = false from hno) (by decide)⟩; have h2 := HX12.out; refine .inl ⟨rfl, ?_⟩; unfold Gives; go_simp; first | done | exact ⟨Ext.refl _, rfl⟩ | (refine ⟨Ext.refl _, ?_⟩; show Value.int .i64 (IntKind.wrap .i64 _) = _; rw [wrap_i64 ⟨by omega, by omega⟩])
      · intro ρ w' hB hD; have e43 : ρ (.tmp 43) = .int .i64 ((b0.toNat : Int) + 1 + x) := hD 10 43 rfl rfl; clear hB hD; refine ⟨fun hE => ?_, fun hno => absurd (show true = false from hno) (by decide)⟩; have h2 := HX12.out; have h3 := HC.out; refine .inl ⟨rfl, ?_⟩; unfold Gives; go_simp; refine ⟨Ext.refl _, ?_⟩; show Value.int .u8 (IntKind.wrap .u8 _) = _
        rw [wrap_u8]; first | done | rfl | rw [h3]
      · intro ρ w' hB hD; have e33 : ρ (.tmp 33) = .slice (some ⟨g, 0, none⟩) L cap := hD 0 33 rfl rfl; have e34 : ρ (.tmp 34) = .int .i64 k := hD 1 34 rfl rfl; clear hB hD; refine ⟨fun hE => ?_, fun hno => absurd (show true = false from hno) (by decide)⟩; have h1 : (k : Int) < (L : Int) := by have := HKL.out; have := HL.out; omega
        have h2 := HX12.out; refine .inl ⟨rfl, ?_⟩; unfold Gives; go_simp; first | done | exact xr0 | exact xr1 | exact hS | exact ⟨hS, rfl⟩ | exact ⟨Ext.refl _, trivial⟩ | exact ⟨hS, trivial⟩
      · intro ρ w' hB hD; have e44 : ρ (.tmp 44) = .int .u8 (c.toNat : Int) := hD 11 44 rfl rfl; have e45 : ρ (.tmp 45) = .pointer (some ⟨g, k, none⟩) := hD 12 45 rfl rfl; clear hB hD; refine ⟨fun hE => ?_, fun hno => absurd (show true = false from hno) (by decide)⟩; have q0 := hE.cell HCELL.out; have z0 : w'.frozen? ⟨g, k, none⟩ = false := frozen_own (hE.heap HGH.out) HFZ.out (by have := HCS.out; have := HKL.out; have := HL.out; omega); refine .inl ⟨rfl, ?_⟩; unfold Gives; go_simp; exact ⟨spoil_set hE HGH.out, trivial⟩
    intro a' w5 hS hd' hs' hB' hP'; have ha' := act_of_posts [(33, .slice (some ⟨g, 0, none⟩) L cap), (34, .int .i64 k), (35, .slice (some ⟨g, 0, none⟩) L cap), (36, .int .i64 k), (37, .pointer (some ⟨g, k, none⟩)), (38, .int .u8 (b0.toNat : Int)), (39, .int .i64 (b0.toNat : Int)), (40, .int .i64 ((b0.toNat : Int) + 1)), (41, .int .i64 with_), (42, .int .i64 x), (43, .int .i64 ((b0.toNat : Int) + 1 + x)), (44, .int .u8 (c.toNat : Int)), (45, .pointer (some ⟨g, k, none⟩))] hd' hs' hB' (by simp) (by kernel_rfl) (by
      intro p hp; simp only [List.mem_cons, List.mem_nil_iff, or_false] at hp
      rcases hp with rfl | rfl | rfl | rfl | rfl | rfl | rfl | rfl | rfl | rfl | rfl | rfl | rfl
      · exact hP' 0 33 rfl
      · exact hP' 1 34 rfl
      · exact hP' 2 35 rfl
      · exact hP' 3 36 rfl
      · exact hP' 4 37 rfl
      · exact hP' 5 38 rfl
      · exact hP' 6 39 rfl
      · exact hP' 7 40 rfl
      · exact hP' 8 41 rfl
      · exact hP' 9 42 rfl
      · exact hP' 10 43 rfl
      · exact hP' 11 44 rfl
      · exact hP' 12 45 rfl)
    clear hB' hP' hs' hd'; simp only [List.foldl_cons, List.foldl_nil, List.setIfInBounds_toArray, List.set_cons_succ, List.set_cons_zero] at ha'; subst ha'; have HX5 := Lib.hid (hS.turn.ext HX3.out HBG.out); have HRD := Lib.hid (reads_set hS.is HTK.out (by have := HCS.out; have := HL.out; omega) HKL.out); have hsl : (fr.set k c).length = L := by rw [List.length_set, HL.out]
    have hcm : cap ≤ 9223372036854775807 := HCS.out.2.1; have HD := Lib.hid (decode_calls (fr.set k c) (some ⟨g, 0, none⟩) cap w5 (HE.out.ext HX5.out) (by rw [hsl]; omega) (by rw [hsl]; exact HCS.out.1) hcm HRD.out); rw [HED.out, hsl] at HD; have HWB := Lib.hid (fun w' (h : Ext w5 w') => whyBad_calls (fr.set k c) (some ⟨g, 0, none⟩) cap w' (HE.out.ext (HX5.out.trans h)) (by rw [hsl]; omega) (by rw [hsl]; exact HCS.out.1) hcm (HRD.out.ext h) HES.out ((HX5.out.trans h).cell HG.out)); rw [hsl] at HWB; clear hS hsl hcm; go_wp2_with fail; refine (HD.out).mono ?_; rintro e w6 ⟨⟨v6, rfl, hv6⟩, hE6⟩; have HX6 := Lib.hid (HX5.out.trans hE6); have HE6 := Lib.hid hE6; have hsz : (msgV noMsg).size = 42 := by decide
    clear hE6 hv6; have hb := HALLOC.out w6; go_wp2_with fail; generalize hWW : w6.alloc (.cells #[.int .i64 0, .string ⟨#[]⟩, .string ⟨#[]⟩, .int .i64 0, .bool false, .int .i64 0, .int .i64 0, .int .i64 0, .bool false, .string ⟨#[]⟩, .int .i64 0, .int .i64 0, .int .i64 0, .bool false, .int .i64 0, .int .i64 0, .int .i64 0, .int .i64 0, .string ⟨#[]⟩, .string ⟨#[]⟩, .string ⟨#[]⟩, .string ⟨#[]⟩, .string ⟨#[]⟩, .int .i64 0, .int .i64 0, .int .i64 0, .int .i64 0, .int .i64 0, .int .i64 0, .int .i64 0, .int .i64 0, .int .i64 0, .int .i64 0, .int .i64 0, .int .i64 0, .int .i64 0, .int .i64 0, .int .i64 0, .int .i64 0, .int .i64 0, .int .i64 0, .int .i64 0] 23) = wx at hb ⊢; clear hWW; rw [run_storeIn HNO.out hb.2 rfl]; have H7B := Lib.hid (heap_setRow (cells := msgV noMsg) hb.2); have H7X := Lib.hid (Ext.trans (HX6.out) (Ext.setRow' hb.1 (g := w6.heap.size) (Nat.le_refl _) (msgV noMsg))); have H7E := Lib.hid (Ext.setRow' hb.1 (g := w6.heap.size) (Nat.le_refl _) (msgV noMsg)); generalize wx.setRow w6.heap.size (msgV noMsg) = w7 at H7B H7X H7E ⊢; clear hb; go_wp2_with fail; refine (HWB.out _ (HE6.out.trans H7E.out)).mono ?_; rintro e w8 ⟨rfl, hE8, _⟩; have HX8 := Lib.hid (H7X.out.trans hE8); have H8B := Lib.hid (hE8.heap H7B.out); clear hE8; dsimp only; have hb := HALLOC.out w8; go_wp2_with fail
    generalize hWW : w8.alloc (.cells #[.int .i64 0, .string ⟨#[]⟩, .string ⟨#[]⟩, .int .i64 0, .bool false, .int .i64 0, .int .i64 0, .int .i64 0, .bool false, .string ⟨#[]⟩, .int .i64 0, .int .i64 0, .int .i64 0, .bool false, .int .i64 0, .int .i64 0, .int .i64 0, .int .i64 0, .string ⟨#[]⟩, .string ⟨#[]⟩, .string ⟨#[]⟩, .string ⟨#[]⟩, .string ⟨#[]⟩, .int .i64 0, .int .i64 0, .int .i64 0, .int .i64 0, .int .i64 0, .int .i64 0, .int .i64 0, .int .i64 0, .int .i64 0, .int .i64 0, .int .i64 0, .int .i64 0, .int .i64 0, .int .i64 0, .int .i64 0, .int .i64 0, .int .i64 0, .int .i64 0, .int .i64 0] 23) = wx at hb ⊢; clear hWW; rw [run_storeIn HNO.out hb.2 rfl]; have H9B := Lib.hid (heap_setRow (cells := msgV noMsg) hb.2); have H9X := Lib.hid (Ext.trans (HX8.out) (Ext.setRow' hb.1 (g := w8.heap.size) (Nat.le_refl _) (msgV noMsg))); have H9E := Lib.hid (Ext.setRow' hb.1 (g := w8.heap.size) (Nat.le_refl _) (msgV noMsg)); generalize wx.setRow w8.heap.size (msgV noMsg) = w9 at H9B H9X H9E ⊢; clear hb; have hrow := rowOf_blk H9B.out; have hrow2 := rowOf_blk (H9E.out.heap H8B.out); have hwt := HNO.out; go_wp2_with fail; refine wp_build0 rfl ?_; go_wp2_with fail; refine wp_build0 rfl ?_; go_wp2; go_ret; exact ⟨rfl, H9X.out⟩
  · have he1 := encode_refused h0; rw [he1] at HENC; obtain ⟨v1, hv⟩ : ∃ v, (valid m).1 = v := ⟨_, rfl⟩
    rw [hv] at HENC h0; have h1 : (v1 != 0) = true := by simpa using h0
    clear hv he1 hm hE hal; go_enter Tryz.func10, Tryz.ntmps10
    go_wp2_with fail; refine (shown_calls _ (HE.out.ext HX0.out)).mono ?_; rintro e w1 ⟨rfl, hE1⟩; have HX1 := Lib.hid (HX0.out.trans hE1); have HM1 := Lib.hid (hE1.heap HM0.out); have hrow := rowOf_blk HM1.out; clear hE1; go_wp2_with fail; refine (HENC.out _ HX1.out).mono ?_; rintro e w3 ⟨⟨v, rfl, hown⟩, hE3⟩; have HX3 := Lib.hid (HX1.out.trans hE3); clear hE3 hrow hown; go_wp2; go_ret; exact ⟨rfl, HX3.out⟩
end
section
open Go Go.ChangeShapes Go.WideShapes Go.ChangeAt Go.RowKit
theorem fixSpoilt_lifted (os : Os) (started : os.Started) (H : Type) (enc : TypeId × Value → H) :
    ReturnsInHanded {} Tryz.checked os 10 .any (fun w args => (Rows.fixSpoiltSpec.pre enc Tryz.prog Tryz.f10 [] false w args ∧ laidMetH Tryz.prog Rows.fixSpoiltRow.laid w) ∧ sizedMet enc Tryz.prog Tryz.f10 (OpenSpec.ofChange Rows.fixSpoiltSpec) false w args)
      (Rows.fixSpoiltSpec.post enc Tryz.prog Tryz.f10 false true false false) := by
  refine returns_shaped (C := Tryz.checked) (X := fun w _ => laidMetH Tryz.prog Rows.fixSpoiltRow.laid w) (fun _ _ _ hh h => h.of_heap hh) ownKnobs started (by kernel_rfl) Tryz.func10
    (ChangeSpec.witness_shaped (enc := enc) (C := Tryz.checked) (os := os) (X := fun w _ => laidMetH Tryz.prog Rows.fixSpoiltRow.laid w) false (laidH os) #[.agg (msgV noMsg), .int .i64 0, .int .i64 0] 8 (laidH_os os) (laidH_shape os _) (by kernel_rfl) (by kernel_rfl) (by kernel_rfl) (laidH_met os _)) ?_
  intro W base args ds gs before hshape hval0 hW hwt hL; have hval : ∀ (j : Nat) t v, Tryz.f10.params[j]? = some t → args[j]? = some v → Value.okWide Tryz.prog W .any base t v := hval0; have hW' := hW; obtain ⟨p, q, hA0, hV, rfl, hfz, hnd⟩ := hW; have hA : DataW.TrodAll enc Tryz.prog W 0 (fun _ => true) true [23, 3, 3] args.toList ds p := hA0; obtain ⟨v0, v1, v2, d0, d1, d2, p0, p1, p2, rfl, rfl, rfl, h0, h1, h2⟩ := trodAll_three hA; obtain ⟨rfl, rfl⟩ := trodVars_none hV; have hL : laidMetH Tryz.prog Rows.fixBackRow.laid W := hL; have hE : Env W := env_of_laidH hL hshape; simp only [List.append_nil] at hW'; have hlt : ∀ x ∈ p0 ++ p1 ++ p2, x.block < W.heap.size := fun x hx => by simpa using hW'.lt x hx
  have fin : ∀ W' : World, Ext W W' → Rows.fixSpoiltSpec.post enc Tryz.prog Tryz.f10 false true false false W #[v0, v1, v2] (.bool true) W' := fun W' hX =>
    ⟨_, _, _, [], _, [], hW', trodAll_mk1 (shut_bool Tryz.underlying4 true), trodAll_mk3 (Below.trod laidOutAll (by kernel_rfl) (of_decide_eq_true (by kernel_rfl)) h0 hX (fun x hx => hlt x (by simp [hx]))) (Below.trod laidOutAll (by kernel_rfl) (of_decide_eq_true (by kernel_rfl)) h1 hX (fun x hx => hlt x (by simp [hx]))) (Below.trod laidOutAll (by kernel_rfl) (of_decide_eq_true (by kernel_rfl)) h2 hX (fun x hx => hlt x (by simp [hx]))), rfl, Below.frame hX _, fun h => by cases h⟩
  obtain ⟨m, hm, e0⟩ := open_msg (hval 0 23 v0 rfl rfl) h0 (fun n hn => by
    have h9 := List.all_eq_true.1 hwt n (DataW.weights_mem_each (j := 0) (t := 23) (d := d0) rfl rfl n hn); have h8 : n ≤ reachBytes := by simpa using h9
    have h7 : reachBytes = 140737488351232 := rfl; omega)
  subst e0; obtain ⟨n1, e1, _, _, wf1⟩ := open_int Tryz.underlying3 (hval 1 3 v1 rfl rfl) h1; subst e1; have r1 : -9223372036854775808 ≤ n1 ∧ n1 ≤ 9223372036854775807 := by
    have h9 : (decide (-9223372036854775808 ≤ n1) && decide (n1 ≤ 9223372036854775807)) = true := wf1; simpa using h9
  obtain ⟨n2, e2, _, _, wf2⟩ := open_int Tryz.underlying3 (hval 2 3 v2 rfl rfl) h2; subst e2; have r2 : -9223372036854775808 ≤ n2 ∧ n2 ≤ 9223372036854775807 := by
    have h9 : (decide (-9223372036854775808 ≤ n2) && decide (n2 ≤ 9223372036854775807)) = true := wf2; simpa using h9
  refine (fixSpoilt_calls m hm n1 n2 W hE (etype_of_laid hL) r1 r2).mono fun e W' ⟨he, hX⟩ => ?_
  subst he; exact ⟨_, rfl, fin W' hX⟩
end
end Go.Proofs.YtdmjinlgdkgoiaaGreatDoor
