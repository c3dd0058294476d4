/- Of the layer fix: Order. -/
import Derived.Test.YtdmjinlgdkgoiaaGreatDoorFbAy
import Derived.Test.YtdmjinlgdkgoiaaGreatDoorFbAz
set_option linter.unusedVariables false
set_option linter.unusedSimpArgs false
namespace Go.Proofs.YtdmjinlgdkgoiaaGreatDoor
section
open Go Go.RowKit
set_option maxHeartbeats 1600000
set_option maxRecDepth 100000
attribute [local go_sem ↓] loadVarMsg buildMsg0 eqMsg
attribute [local go_sem] ba_get loadRowMsg rowOf_new rowOf_old rowOf_drew
def MovesAt (w : World) (A : Option Addr) (l : List Int) : Prop := ∀ (j : Nat) (h : j < l.length), ∃ b off, A = some ⟨b, off, none⟩ ∧ w.cell? ⟨b, off + j, none⟩ = some (.int .i64 l[j])
theorem MovesAt.ext {w w' : World} {A : Option Addr} {l : List Int} (h : MovesAt w A l) (hE : Ext w w') : MovesAt w' A l := fun j hj => by
  obtain ⟨b, off, e, hc⟩ := h j hj; exact ⟨b, off, e, hE.cell hc⟩
structure Lst (w w0 wr : World) (v : Value) (fl l : List Fld) : Prop where
  own : OwnF wr 0 v l
  perm : l.Perm fl
  head : l.head? = fl.head?
  ext : Ext w wr
theorem fixOrder_calls (m : Msg) (hm : WT m) (moves : List Int) (A : Option Addr) (cap : Nat) (w : World) (hE : Env w) (hmv : MovesAt w A moves) (hr : ∀ c ∈ moves, -9223372036854775808 ≤ c ∧ c ≤ 9223372036854775807) (hn : moves.length ≤ 140737488355328) :
    Calls Tryz.prog 5 #[.agg (msgV m), .slice A moves.length cap] w fun e w' => e = .returned (.bool true) ∧ Ext w w' := by
  have hal : ∀ w3 : World, Ext w3 (w3.alloc (.cells #[.int .i64 0, .string ⟨#[]⟩, .string ⟨#[]⟩, .int .i64 0, .bool false, .int .i64 0, .int .i64 0, .int .i64 0, .bool false, .string ⟨#[]⟩, .int .i64 0, .int .i64 0, .int .i64 0, .bool false, .int .i64 0, .int .i64 0, .int .i64 0, .int .i64 0, .string ⟨#[]⟩, .string ⟨#[]⟩, .string ⟨#[]⟩, .string ⟨#[]⟩, .string ⟨#[]⟩, .int .i64 0, .int .i64 0, .int .i64 0, .int .i64 0, .int .i64 0, .int .i64 0, .int .i64 0, .int .i64 0, .int .i64 0, .int .i64 0, .int .i64 0, .int .i64 0, .int .i64 0, .int .i64 0, .int .i64 0, .int .i64 0, .int .i64 0, .int .i64 0, .int .i64 0] 23)) ∧ (w3.alloc (.cells #[.int .i64 0, .string ⟨#[]⟩, .string ⟨#[]⟩, .int .i64 0, .bool false, .int .i64 0, .int .i64 0, .int .i64 0, .bool false, .string ⟨#[]⟩, .int .i64 0, .int .i64 0, .int .i64 0, .bool false, .int .i64 0, .int .i64 0, .int .i64 0, .int .i64 0, .string ⟨#[]⟩, .string ⟨#[]⟩, .string ⟨#[]⟩, .string ⟨#[]⟩, .string ⟨#[]⟩, .int .i64 0, .int .i64 0, .int .i64 0, .int .i64 0, .int .i64 0, .int .i64 0, .int .i64 0, .int .i64 0, .int .i64 0, .int .i64 0, .int .i64 0, .int .i64 0, .int .i64 0, .int .i64 0, .int .i64 0, .int .i64 0, .int .i64 0, .int .i64 0, .int .i64 0] 23)).heap[w3.heap.size]? = some (.cells #[.int .i64 0, .string ⟨#[]⟩, .string ⟨#[]⟩, .int .i64 0, .bool false, .int .i64 0, .int .i64 0, .int .i64 0, .bool false, .string ⟨#[]⟩, .int .i64 0, .int .i64 0, .int .i64 0, .bool false, .int .i64 0, .int .i64 0, .int .i64 0, .int .i64 0, .string ⟨#[]⟩, .string ⟨#[]⟩, .string ⟨#[]⟩, .string ⟨#[]⟩, .string ⟨#[]⟩, .int .i64 0, .int .i64 0, .int .i64 0, .int .i64 0, .int .i64 0, .int .i64 0, .int .i64 0, .int .i64 0, .int .i64 0, .int .i64 0, .int .i64 0, .int .i64 0, .int .i64 0, .int .i64 0, .int .i64 0, .int .i64 0, .int .i64 0, .int .i64 0, .int .i64 0] 23) := allocSays
  have HALLOC := Lib.hid hal; have HE := Lib.hid hE; have HWT := Lib.hid hm; have HX0 : RowKit.Hid (Ext w (w.alloc (.cells (msgV m) 23))) := Lib.hid ((Ext.refl w).alloc _); have HM0 := Lib.hid (heap_alloc_new w (.cells (msgV m) 23)); have HENC := Lib.hid (fun w1 (h : Ext w w1) => encode_calls m hm w1 (HE.out.ext h)); have HMV := Lib.hid hmv; have HRG := Lib.hid hr; obtain ⟨N, hN⟩ : ∃ n, moves.length = n := ⟨_, rfl⟩
  rw [hN] at hn ⊢; have HN := Lib.hid hN; have hs := msgV_size hm; have hn0 : (N : Int) ≤ 140737488355328 := by omega
  clear hmv hr hN hn
  by_cases h0 : (valid m).1 = 0
  · obtain ⟨he1, he2, he3⟩ := encode_good hm h0; have h3 := fieldsOf_three hm h0; have hok := fieldsOf_ok hm h0; have hord := fun (l : List Fld) (h1 : l.Perm (fieldsOf m)) (h2 : l.head? = (fieldsOf m).head?) => decode_order hm h0 h1 h2
    rw [he1] at HENC; obtain ⟨fr, hfr⟩ : ∃ q, frameOf (fieldsOf m) = q := ⟨_, rfl⟩
    rw [hfr] at HENC he2 he3; have hlen : (fieldsOf m).length ≤ 1025 := split_count he2; obtain ⟨fl, hfl⟩ : ∃ q, fieldsOf m = q := ⟨_, rfl⟩
    rw [hfl] at he2 h3 hok hord hlen; have HSP := Lib.hid he2; have HLE := Lib.hid he3; have HOK := Lib.hid hok; have HORD := Lib.hid hord; obtain ⟨L, hL⟩ : ∃ n, fl.length = n := ⟨_, rfl⟩
    rw [hL] at h3 hlen; have HL := Lib.hid hL; have HL3 : RowKit.Hid (3 ≤ L ∧ L ≤ 1025) := Lib.hid ⟨h3, hlen⟩; have hl3 : (3 : Int) ≤ (L : Int) := by omega
    clear h0 he1 hfr he2 he3 hm hE hal h3 hok hord hfl hlen hL
    go_enter Tryz.func5, Tryz.ntmps5
    go_wp2_with fail; refine (shown_calls _ (HE.out.ext HX0.out)).mono ?_; rintro e w1 ⟨rfl, hE1⟩; have HX1 := Lib.hid (HX0.out.trans hE1); have HM1 := Lib.hid (hE1.heap HM0.out); have hrow := rowOf_blk HM1.out; clear hE1; go_wp2_with fail; refine (HENC.out _ HX1.out).mono ?_; rintro e w3 ⟨⟨v, rfl, hown⟩, hE3⟩; have hown : Own w3 _ 5 v fr := hown; obtain ⟨g, cap5, rfl, hc1, hc2, hrd, hbg, hgl⟩ := hown.readsB; have HX3 := Lib.hid (HX1.out.trans hE3); have HM3 := Lib.hid (hE3.heap HM1.out); have HD := Lib.hid (split_calls fr (some ⟨g, 0, none⟩) cap5 w3 (HE.out.ext HX3.out) (by have := HLE.out; omega) hc1 hc2 hrd); rw [HSP.out] at HD; clear hown hE3 hrd hbg hgl hc1 hc2 hrow; go_wp2_with fail; refine (HD.out).mono ?_; rintro e w4 ⟨⟨v, rfl, hown⟩, hE4⟩; have HX4 := Lib.hid (HX3.out.trans hE4); have HM4 := Lib.hid (hE4.heap HM3.out); have HLST : RowKit.Hid (Lst w4 w4 w4 v fl fl) := Lib.hid ⟨hown.more (Nat.zero_le _), List.Perm.refl _, rfl, Ext.refl _⟩; have hfo : OwnF w4 _ v fl := hown; obtain ⟨A0, cap0, rfl, _⟩ := hfo.shape; rw [HL.out] at HLST ⊢; clear hown hE4 hfo HD; go_wp2_with fail
    go_loopw [8, 10] (fun v i wr => ∃ (k : Nat) (l : List Fld), k ≤ N ∧ k ≤ 40 ∧ i = .int .i64 k ∧ Lst w4 w4 wr v fl l) (fun _ i _ => 40 - (intOf i).toNat)
    case atStart => exact ⟨0, fl, by omega, by omega, rfl, HLST.out⟩
    case round =>
      obtain ⟨k, l, hk, hk2, rfl, hlst⟩ := hrel; have HL1 := Lib.hid hlst; have hll : l.length = L := by rw [hlst.perm.length_eq]; exact HL.out
      have HLL := Lib.hid hll; obtain ⟨g1, cap1, rfl, _, hgl1, _, _, hcs1⟩ := hlst.own.form (by rintro rfl; have := HL3.out; simp at hll; omega); have HAT1 : RowKit.Hid (FieldsAt wr g1 l ∧ g1 < wr.heap.size) := Lib.hid ⟨OwnF.at (base := 0) hcs1, hgl1⟩; rw [hll] at HL1 ⊢; clear hlst HLST hll hcs1 hgl1
      by_cases hlt : k < N
      · by_cases hlt2 : k < 40
        · have hkl : k < moves.length := by rw [HN.out]; exact hlt
          obtain ⟨b, off, rfl, hcell⟩ := HMV.out k hkl; have hrk := HRG.out moves[k] (List.getElem_mem hkl); obtain ⟨c, hc⟩ : ∃ c, moves[k] = c := ⟨_, rfl⟩
          rw [hc] at hcell hrk; have HRK := Lib.hid hrk; have q0 := (HX4.out.trans HL1.out.ext).cell hcell; have hki : (k : Int) < (N : Int) := by omega
          have hki2 : (k : Int) < 40 := by omega
          have hp1 := pickOf_lt (c := c) (n := (L : Int) - 1) (by omega); have hp2 := pickOf_lt (c := c.tdiv 64) (n := (L : Int) - 1) (by omega); have hd1 : -9223372036854775808 ≤ c.tdiv 64 ∧ c.tdiv 64 ≤ 9223372036854775807 := by
            rcases Int.le_total 0 c with h | h
            · rw [Int.tdiv_eq_ediv_of_nonneg h]; omega
            · have e : c.tdiv 64 = -((-c).tdiv 64) := by rw [← Int.neg_tdiv, Int.neg_neg]
              rw [e, Int.tdiv_eq_ediv_of_nonneg (by omega)]; omega
          have HD1 := Lib.hid hd1; obtain ⟨p, hp⟩ : ∃ p : Nat, 1 + pickOf c ((L : Int) - 1) = p := ⟨(1 + pickOf c ((L : Int) - 1)).toNat, by omega⟩
          obtain ⟨q, hq⟩ : ∃ q : Nat, 1 + pickOf (c.tdiv 64) ((L : Int) - 1) = q := ⟨(1 + pickOf (c.tdiv 64) ((L : Int) - 1)).toNat, by omega⟩
          have HP : RowKit.Hid (1 ≤ p ∧ p < L ∧ 1 ≤ q ∧ q < L) := Lib.hid (by omega); have HPQ := Lib.hid (And.intro hp hq); have hpl : p < l.length := by rw [HLL.out]; exact HP.out.2.1
          have HTURN := Lib.hid (turned_calls l (.slice (some ⟨g1, 0, none⟩) L cap1) wr 0 p q hpl (by rw [HLL.out]; exact HP.out.2.2.2) (by rw [HLL.out]; have := HL3.out; omega) (by rw [HLL.out]; have := HL3.out; omega) HL1.out.own); have HTP := Lib.hid (And.intro (turned_perm (k := q) hpl) (turned_head HP.out.1 hpl HP.out.2.2.1)); obtain ⟨lt, hlt9⟩ : ∃ x, turnedL l p q l[p] = x := ⟨_, rfl⟩
          rw [hlt9] at HTURN HTP; have hs1 : 0 ≤ pickOf c ((L : Int) - 1) ∧ pickOf c ((L : Int) - 1) < 1025 := by have := HL3.out; omega
          have hs2 : 0 ≤ pickOf (c.tdiv 64) ((L : Int) - 1) ∧ pickOf (c.tdiv 64) ((L : Int) - 1) < 1025 := by have := HL3.out; omega
          obtain ⟨x1, hx1⟩ : ∃ x, pickOf c ((L : Int) - 1) = x := ⟨_, rfl⟩
          obtain ⟨x2, hx2⟩ : ∃ x, pickOf (c.tdiv 64) ((L : Int) - 1) = x := ⟨_, rfl⟩
          have HX12 := Lib.hid (And.intro hx1 hx2); rw [hx1] at hs1 HPQ; rw [hx2] at hs2 HPQ; have hL1 : (L : Int) ≤ 1025 := by have := HL3.out; omega
          clear hcell hrk hc hkl hp1 hp2 hd1 hp hq hpl hlt9 hx1 hx2; go_wp2_with fail; refine (pick_calls c _ _ HRK.out.1 HRK.out.2 (by omega) (by omega)).mono ?_; rintro e w5 ⟨rfl, rfl⟩; rw [HX12.out.1]; go_wp2_with fail; rw [wrap_same HD1.out]; refine (pick_calls (c.tdiv 64) _ _ HD1.out.1 HD1.out.2 (by omega) (by omega)).mono ?_; rintro e w5 ⟨rfl, rfl⟩; rw [HX12.out.2]; go_wp2_with fail; rw [HPQ.out.1, HPQ.out.2]; refine HTURN.out.mono ?_; rintro e w6 ⟨v6, rfl, hown6, hE6⟩; have HL6 : RowKit.Hid (Lst w4 w4 w6 v6 fl lt) := Lib.hid ⟨hown6.more (Nat.zero_le _), HTP.out.1.trans HL1.out.perm, HTP.out.2.trans HL1.out.head, HL1.out.ext.trans hE6⟩; clear hown6 hE6 q0 hs1 hs2; go_wp2
          go_roundw
          case rel => exact ⟨k + 1, lt, by omega, by omega, by go_num, HL6.out⟩
          case measure => simp [intOf]; omega
        · have hk40 : k = 40 := by omega
          subst hk40; have hki : (40 : Int) < (N : Int) := by omega
          have hj := HORD.out l HL1.out.perm HL1.out.head; obtain ⟨hj1, hj2⟩ := hj; have HJ := Lib.hid (join_calls l g1 cap1 wr (by rintro rfl; have := HLL.out; have := HL3.out; simp at *; omega) (HE.out.ext (HX4.out.trans HL1.out.ext)) (fun f hf => HOK.out f (HL1.out.perm.mem_iff.1 hf)) (by rw [HLL.out]; have := HL3.out; omega) HAT1.out.1 HAT1.out.2); rw [hj1, HLL.out] at HJ; obtain ⟨fr2, hfr2⟩ : ∃ q, frameOf l = q := ⟨_, rfl⟩
          rw [hfr2] at HJ hj2; have HDE := Lib.hid hj2; clear hj1 hj2 hfr2; go_wp2_with fail; refine (HJ.out).mono ?_; rintro e w6 ⟨⟨v, rfl, hown⟩, hE6⟩; have hown : Own w6 _ 5 v fr2 := hown; obtain ⟨g, cap5, rfl, hc1, hc2, hrd, hbg, hgl⟩ := hown.readsB; have HX6 := Lib.hid ((HX4.out.trans HL1.out.ext).trans hE6); have HM6 := Lib.hid ((HL1.out.ext.trans hE6).heap HM4.out); have HD := Lib.hid (decode_calls fr2 (some ⟨g, 0, none⟩) cap5 w6 (HE.out.ext HX6.out) (by have := decode_len HDE.out; omega) hc1 hc2 hrd); rw [HDE.out] at HD; clear hown hE6 hrd hbg hgl hc1 hc2; go_wp2_with fail; refine (HD.out).mono ?_; rintro e w7 ⟨rfl, hE7⟩; have HX7 := Lib.hid (HX6.out.trans hE7); have HM7 := Lib.hid (hE7.heap HM6.out); clear hE7; have hb := HALLOC.out w7; go_wp2_with fail; generalize hWW : w7.alloc (.cells #[.int .i64 0, .string ⟨#[]⟩, .string ⟨#[]⟩, .int .i64 0, .bool false, .int .i64 0, .int .i64 0, .int .i64 0, .bool false, .string ⟨#[]⟩, .int .i64 0, .int .i64 0, .int .i64 0, .bool false, .int .i64 0, .int .i64 0, .int .i64 0, .int .i64 0, .string ⟨#[]⟩, .string ⟨#[]⟩, .string ⟨#[]⟩, .string ⟨#[]⟩, .string ⟨#[]⟩, .int .i64 0, .int .i64 0, .int .i64 0, .int .i64 0, .int .i64 0, .int .i64 0, .int .i64 0, .int .i64 0, .int .i64 0, .int .i64 0, .int .i64 0, .int .i64 0, .int .i64 0, .int .i64 0, .int .i64 0, .int .i64 0, .int .i64 0, .int .i64 0, .int .i64 0] 23) = wx at hb ⊢; clear hWW; rw [run_storeIn HWT.out hb.2 rfl]; have H8B := Lib.hid (heap_setRow (cells := msgV m) hb.2)
          have H8X := Lib.hid (Ext.trans (HX7.out) (Ext.setRow' hb.1 (g := w7.heap.size) (Nat.le_refl _) (msgV m))); have H8E := Lib.hid (Ext.setRow' hb.1 (g := w7.heap.size) (Nat.le_refl _) (msgV m)); generalize wx.setRow w7.heap.size (msgV m) = w8 at H8B H8X H8E ⊢; clear hb; have hrow := rowOf_blk H8B.out; have hrow2 := rowOf_blk (H8E.out.heap HM7.out); have hwt := HWT.out; go_wp2; go_ret; exact ⟨rfl, H8X.out⟩
      · have hkn : N = k := by omega
        subst hkn; have hj := HORD.out l HL1.out.perm HL1.out.head; obtain ⟨hj1, hj2⟩ := hj; have HJ := Lib.hid (join_calls l g1 cap1 wr (by rintro rfl; have := HLL.out; have := HL3.out; simp at *; omega) (HE.out.ext (HX4.out.trans HL1.out.ext)) (fun f hf => HOK.out f (HL1.out.perm.mem_iff.1 hf)) (by rw [HLL.out]; have := HL3.out; omega) HAT1.out.1 HAT1.out.2); rw [hj1, HLL.out] at HJ; obtain ⟨fr2, hfr2⟩ : ∃ q, frameOf l = q := ⟨_, rfl⟩
        rw [hfr2] at HJ hj2; have HDE := Lib.hid hj2; clear hj1 hj2 hfr2; go_wp2_with fail; refine (HJ.out).mono ?_; rintro e w6 ⟨⟨v, rfl, hown⟩, hE6⟩; have hown : Own w6 _ 5 v fr2 := hown; obtain ⟨g, cap5, rfl, hc1, hc2, hrd, hbg, hgl⟩ := hown.readsB; have HX6 := Lib.hid ((HX4.out.trans HL1.out.ext).trans hE6); have HM6 := Lib.hid ((HL1.out.ext.trans hE6).heap HM4.out); have HD := Lib.hid (decode_calls fr2 (some ⟨g, 0, none⟩) cap5 w6 (HE.out.ext HX6.out) (by have := decode_len HDE.out; omega) hc1 hc2 hrd); rw [HDE.out] at HD; clear hown hE6 hrd hbg hgl hc1 hc2; go_wp2_with fail; refine (HD.out).mono ?_; rintro e w7 ⟨rfl, hE7⟩; have HX7 := Lib.hid (HX6.out.trans hE7); have HM7 := Lib.hid (hE7.heap HM6.out); clear hE7; have hb := HALLOC.out w7; go_wp2_with fail; generalize hWW : w7.alloc (.cells #[.int .i64 0, .string ⟨#[]⟩, .string ⟨#[]⟩, .int .i64 0, .bool false, .int .i64 0, .int .i64 0, .int .i64 0, .bool false, .string ⟨#[]⟩, .int .i64 0, .int .i64 0, .int .i64 0, .bool false, .int .i64 0, .int .i64 0, .int .i64 0, .int .i64 0, .string ⟨#[]⟩, .string ⟨#[]⟩, .string ⟨#[]⟩, .string ⟨#[]⟩, .string ⟨#[]⟩, .int .i64 0, .int .i64 0, .int .i64 0, .int .i64 0, .int .i64 0, .int .i64 0, .int .i64 0, .int .i64 0, .int .i64 0, .int .i64 0, .int .i64 0, .int .i64 0, .int .i64 0, .int .i64 0, .int .i64 0, .int .i64 0, .int .i64 0, .int .i64 0, .int .i64 0] 23) = wx at hb ⊢; clear hWW; rw [run_storeIn HWT.out hb.2 rfl]; have H8B := Lib.hid (heap_setRow (cells := msgV m) hb.2)
        have H8X := Lib.hid (Ext.trans (HX7.out) (Ext.setRow' hb.1 (g := w7.heap.size) (Nat.le_refl _) (msgV m))); have H8E := Lib.hid (Ext.setRow' hb.1 (g := w7.heap.size) (Nat.le_refl _) (msgV m)); generalize wx.setRow w7.heap.size (msgV m) = w8 at H8B H8X H8E ⊢; clear hb; have hrow := rowOf_blk H8B.out; have hrow2 := rowOf_blk (H8E.out.heap HM7.out); have hwt := HWT.out; go_wp2; go_ret; exact ⟨rfl, H8X.out⟩
  · have he1 := encode_refused h0; rw [he1] at HENC; obtain ⟨v1, hv⟩ : ∃ v, (valid m).1 = v := ⟨_, rfl⟩
    rw [hv] at HENC h0; have h1 : (v1 != 0) = true := by simpa using h0
    clear hv he1 hm hE hal
    go_enter Tryz.func5, Tryz.ntmps5
    go_wp2_with fail; refine (shown_calls _ (HE.out.ext HX0.out)).mono ?_; rintro e w1 ⟨rfl, hE1⟩; have HX1 := Lib.hid (HX0.out.trans hE1); have HM1 := Lib.hid (hE1.heap HM0.out); have hrow := rowOf_blk HM1.out; clear hE1; go_wp2_with fail; refine (HENC.out _ HX1.out).mono ?_; rintro e w3 ⟨⟨v, rfl, hown⟩, hE3⟩; have HX3 := Lib.hid (HX1.out.trans hE3); clear hE3 hrow hown; go_wp2; go_ret; exact ⟨rfl, HX3.out⟩
end
end Go.Proofs.YtdmjinlgdkgoiaaGreatDoor
