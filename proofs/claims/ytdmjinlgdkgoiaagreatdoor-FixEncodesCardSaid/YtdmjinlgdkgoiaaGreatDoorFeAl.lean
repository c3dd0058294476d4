/- Of the layer fix: Join, Differs, Price, Price2. -/
import Derived.Test.YtdmjinlgdkgoiaaGreatDoorFeAb
import Derived.Test.YtdmjinlgdkgoiaaGreatDoorFeAe
import Derived.Test.YtdmjinlgdkgoiaaGreatDoorFeAk
import Derived.Lib.BufferOld
import Derived.Lib.ItoaLen
import Derived.Deep.AppendLies
import Derived.Lib.BufferKept
import Derived.Laws.EntriesVeiled
import Derived.Lib.AppendIntMem
import Derived.Shelf.Strings.Cut
set_option linter.unusedVariables false
set_option linter.unusedSimpArgs false
set_option maxRecDepth 100000
namespace Go.Proofs.YtdmjinlgdkgoiaaGreatDoor
section
open Go Go.RowKit
set_option maxHeartbeats 1600000
attribute [local go_sem] ba_get
theorem ba_append (s t : List UInt8) : (ByteArray.mk s.toArray) ++ (ByteArray.mk t.toArray) = ByteArray.mk (s ++ t).toArray := by
 apply ByteArray.ext
 simp [ByteArray.data_append]
theorem basize (s : List UInt8) : (ByteArray.mk s.toArray).size = s.length := by simp [ByteArray.size]
theorem byteCells_one (l : List UInt8) : ∀ v ∈ Lib.byteCells l, v.oneCell' = true := by
 intro v hv; obtain ⟨c, _, rfl⟩ := List.mem_map.1 hv; rfl
theorem byteCells_length' (l : List UInt8) : (Lib.byteCells l).length = l.length := Lib.byteCells_length l
def FieldsAt (w : World) (b : Nat) (l : List Fld) : Prop := ∀ (k : Nat) (h : k < l.length), w.cell? ⟨b, k * 2, none⟩ = some (.int .i64 (l[k]).1) ∧ w.cell? ⟨b, k * 2 + 1, none⟩ = some (.string ⟨((l[k]).2).toArray⟩)
theorem FieldsAt.ext {w w' : World} {b : Nat} {l : List Fld} (h : FieldsAt w b l) (hE : Ext w w') : FieldsAt w' b l := fun k hk => ⟨hE.cell (h k hk).1, hE.cell (h k hk).2⟩
theorem FieldsAt.below {w w' : World} {b B : Nat} {l : List Fld} (h : FieldsAt w b l) (hb : b < B) (hE : Below B w w') : FieldsAt w' b l := fun k hk =>
 ⟨(hE.cell (p := ⟨b, k * 2, none⟩) hb).trans (h k hk).1, (hE.cell (p := ⟨b, k * 2 + 1, none⟩) hb).trans (h k hk).2⟩
def FldOk (f : Fld) : Prop := (-9223372036854775808 ≤ f.1 ∧ f.1 ≤ 9223372036854775807) ∧ f.2.length ≤ 1099511627776
theorem ent_bytes_Buffer_WriteString : Enters 52 := fun args w => by go_simp
structure Joined (W : World) (e : Ending) (w' : World) (r : List UInt8 × Int) : Prop where
 is : ∃ v, e = .returned (.tuple #[v, .int .i64 r.2]) ∧ (if r.2 = 0 then Own w' W.heap.size 5 v r.1 else v = .slice none 0 0)
theorem tagBad_cases (t : Int) : (tagBad t = true ∧ (t < 1 ∨ (1 ≤ t ∧ 9999 < t) ∨ (1 ≤ t ∧ t ≤ 9999 ∧ 8 ≤ t ∧ t ≤ 10))) ∨ (tagBad t = false ∧ (1 ≤ t ∧ t ≤ 9999 ∧ t < 8 ∨ (1 ≤ t ∧ t ≤ 9999 ∧ 8 ≤ t ∧ 10 < t))) := by
 unfold tagBad; simp only [Bool.or_eq_true, Bool.and_eq_true, decide_eq_true_eq, Bool.or_eq_false_iff, Bool.and_eq_false_iff, decide_eq_false_iff_not]; omega
theorem convRule (w : World) (s : List UInt8) : (convert 9 25 (.string ⟨s.toArray⟩)).run Tryz.prog w = .ok (.slice (some ⟨w.heap.size, 0, none⟩) s.length (grownCap w s.length 0 5)) (Lib.bytesWorld w 5 ⟨s.toArray⟩) := by
 have := Lib.run_convert_string_bytes (P := Tryz.prog) w 9 25 5 ⟨s.toArray⟩ Tryz.underlying9 Tryz.underlying25 Tryz.underlying5
 rwa [basize] at this
theorem infoU8 : (Tryz.prog.info? 5).map (fun i => (i.zero, i.size, i.bytes)) = some (some (.int .u8 0), 1, 1) := by kernel_rfl
theorem bodyOf_grows (l : List Fld) : ∀ b : List UInt8, b.length ≤ (bodyOf b l).length := by
 induction l with
 | nil => intro b; exact Nat.le_refl _
 | cons f l ih =>
  intro b; refine Nat.le_trans ?_ (ih _); split <;> simp
theorem bodyOf_ne {l : List Fld} (h : l ≠ []) : 0 < (bodyOf [] l).length := by
 cases l with
 | nil => exact absurd rfl h
 | cons f l =>
  refine Nat.lt_of_lt_of_le ?_ (bodyOf_grows l _); simp [piece]
  omega
theorem headRule (s : List UInt8) : (ByteArray.mk #[56, 61, 70, 73, 88, 46, 52, 46, 52, 1, 57, 61]) ++ (ByteArray.mk s.toArray) = ByteArray.mk (headOf ++ s).toArray := ba_append headOf s
def tenIs : List UInt8 := [49, 48, 61]
theorem tailRule (s : List UInt8) : (ByteArray.mk #[49, 48, 61]) ++ (ByteArray.mk s.toArray) = ByteArray.mk (tenIs ++ s).toArray := ba_append tenIs s
theorem extractRule (c : UInt8) (ds : List UInt8) (n : Nat) (h : ds.length = n) : (ByteArray.mk (c :: ds).toArray).extract 1 (n + 1) = ByteArray.mk ds.toArray := by
 apply ByteArray.ext
 subst h; simp [ByteArray.data_extract]
attribute [local go_sem ↓] convRule headRule tailRule
attribute [local go_sem] ba_append
theorem framed_eq (body : List UInt8) : framed body = (headOf ++ (Lib.itoa body.length ++ [1]) ++ body) ++ ([49, 48, 61] ++ (Lib.itoa (1000 + sumOf (headOf ++ (Lib.itoa body.length ++ [1]) ++ body))).drop 1 ++ [1]) := by
 unfold framed; simp only [List.append_assoc]
theorem Ext.grown' {a w w' : World} {row : Option Nat} (h : Ext a w) (hg : w.grownBy w' row) (hB : a.heap.size ≤ w.heap.size) (hr : ∀ k, row = some k → a.heap.size ≤ k) : Ext a w' := Below.grown h hg hB hr
theorem itoa_four (n : Nat) (h0 : 1000 ≤ n) (h1 : n < 10000) : ∃ c ds, Lib.itoa (n : Int) = c :: ds ∧ ds.length = 3 := by
 have hl : (Lib.itoa (n : Int)).length = 4 := by
  unfold Lib.itoa; rw [if_neg (by omega), Int.toNat_natCast, Lib.decDigits_length, Lib.nDigits_unique 3 n (by omega) (by omega)]
 cases h : Lib.itoa (n : Int) with
 | nil => rw [h] at hl; simp at hl
 | cons c ds => rw [h] at hl; exact ⟨c, ds, rfl, by simpa using hl⟩
theorem join_calls (l : List Fld) (b cap : Nat) (w : World) (hne : l ≠ []) (hE : Env w) (hl : ∀ f ∈ l, FldOk f) (hn : l.length ≤ 1099511627776) (hF : FieldsAt w b l) (hb : b < w.heap.size) :
 Calls Tryz.prog 23 #[.slice (some ⟨b, 0, none⟩) l.length cap] w fun e w' => Joined w e w' (join l) ∧ Ext w w' := by
 obtain ⟨R, hR⟩ : ∃ R, join l = R := ⟨_, rfl⟩
 rw [hR]; have HR := Lib.hid hR; have HENV := Lib.hid hE; have HL := Lib.hid hl; have HF := Lib.hid hF; have HNE := Lib.hid (bodyOf_ne hne); clear hR hE hl hF hne; go_enter Tryz.func23, Tryz.ntmps23
 go_wp2_with fail; go_loopw [13] (fun i wr => ∃ k : Nat, k ≤ l.length ∧ i = .int .i64 k ∧ Ext w wr ∧ (l.take k).any (fun f => tagBad f.1) = false) (fun i _ => l.length - (intOf i).toNat)
 case atStart => exact ⟨0, by omega, rfl, Ext.refl _, rfl⟩
 case round =>
  obtain ⟨k, hk, rfl, hX, hh⟩ := hrel; have HH := Lib.hid hh; clear hh; by_cases hlt : k < l.length
  · obtain ⟨q0, q1⟩ := HF.out k hlt
    replace q0 := hX.cell q0
    replace q1 := hX.cell q1
    rcases tagBad_cases (l[k]).1 with ⟨hbad, hc⟩ | ⟨hgood, hc⟩
    · have e : R = ([], 41) := by rw [← HR.out]; unfold join; rw [if_pos (any_true (p := fun (f : Fld) => tagBad f.1) hlt hbad)]
      subst e; clear hbad; generalize (l[k]).1 = t at *; generalize (l[k]).2 = v at *; rcases hc with h1 | ⟨h1, h2⟩ | ⟨h1, h2, h3, h4⟩
      all_goals
       go_wp2; go_ret2; exact ⟨⟨_, rfl, by simp⟩, hX.alloc _⟩
    · have HN := Lib.hid (any_take_succ (p := fun (f : Fld) => tagBad f.1) hlt HH.out hgood); clear hgood; generalize (l[k]).1 = t at *; generalize (l[k]).2 = v at *; rcases hc with ⟨h1, h2, h3⟩ | ⟨h1, h2, h3, h4⟩
      all_goals
       go_wp2; go_roundw
       case rel => exact ⟨k + 1, by omega, by go_num, hX.alloc _, HN.out⟩
       case measure => simp [intOf]; omega
  · obtain rfl : k = l.length := by omega
    have hany : l.any (fun f => tagBad f.1) = false := by
     have := HH.out
     rwa [List.take_length] at this
    have HA := Lib.hid hany; clear hany HH; go_wp2_with fail
    rename World => w0
    have hbuf := Lib.fresh_isBuffer 104 5 w0; have hBs : w.heap.size ≤ w0.heap.size := hX.size; have hbB : b < w0.heap.size := by omega
    have hEnv : Env w0 := HENV.out.ext hX; have hG : Tryz.prog.globals.size ≤ w0.heap.size := hEnv.size; have hF1 : FieldsAt w0 b l := HF.out.ext hX; have hbel : Below w0.heap.size w0 (w0.alloc (.cells #[.slice none 0 0, .int .i64 0, .int .i8 0] 104)) := (Below.refl _ _).alloc (Nat.le_refl _) _; have HENV1 := Lib.hid hEnv; have HF1 := Lib.hid hF1; have HG := Lib.hid hG; have HBS := Lib.hid hBs; have HBB := Lib.hid hbB; have HBUF0 := Lib.hid hbuf; have HBEL := Lib.hid hbel; clear hEnv hF1 hG hBs hbB hbuf hbel; generalize w0.alloc (.cells #[.slice none 0 0, .int .i64 0, .int .i8 0] 104) = w1 at *; generalize hBdef : w0.heap.size = B at *; go_loopw [38] (fun i w2 => ∃ k : Nat, k ≤ l.length ∧ i = .int .i64 k ∧ Below B w0 w2 ∧ Lib.IsBuffer 104 5 B B (Lib.byteCells (bodyOf [] (l.take k))) w2 ∧ (l.take k).all (fun f => valued f.2) = true ∧ (bodyOf [] (l.take k)).length ≤ 1099511628900) (fun i _ => l.length - (intOf i).toNat)
    case atStart => exact ⟨0, by omega, rfl, HBEL.out, by simpa [bodyOf, Lib.byteCells] using HBUF0.out, rfl, by simp [bodyOf]⟩
    case round =>
     obtain ⟨k, hk, rfl, hB2, hbuf, hall, hlen⟩ := hrel; have HB2 := Lib.hid hB2; have HBUF := Lib.hid hbuf; have HALL := Lib.hid hall; have HLEN := Lib.hid hlen; clear hB2 hbuf hall hlen; by_cases hlt : k < l.length
     · obtain ⟨q0, q1⟩ := HF1.out.below HBB.out HB2.out k hlt; have hok := HL.out l[k] (by simp); obtain ⟨htok, hvok⟩ := hok; have htake := bodyOf_take hlt []; have HTAKE := Lib.hid htake; have HOK := Lib.hid htok; have hvok2 : (l[k]).2.length ≤ 140737488355328 := by omega
       have HV := Lib.hid hvok; obtain ⟨bv, hbv⟩ : ∃ x, valued (l[k]).2 = x := ⟨_, rfl⟩
       have hbad : bv = false → R = ([], 42) := by
        intro h0; rw [← HR.out]; unfold join; rw [if_neg (by rw [HA.out]; simp), if_pos (by rw [all_false' (p := fun (f : Fld) => valued f.2) hlt (by rw [hbv, h0])]; rfl)]
       have hgood : bv = true → (l.take (k + 1)).all (fun f => valued f.2) = true := fun h1 => all_take_succ' (p := fun (f : Fld) => valued f.2) hlt HALL.out (by rw [hbv, h1])
       have HBAD := Lib.hid hbad; have HGOOD := Lib.hid hgood; have HBV := Lib.hid hbv; clear htake htok hvok hbad hgood hbv; unfold piece at HTAKE; generalize (l[k]).1 = t at *; generalize (l[k]).2 = v at *; generalize bodyOf [] (List.take k l) = bs at *; generalize hbsp : bodyOf [] (List.take (k + 1) l) = bs' at *; have HBSP := Lib.hid hbsp; clear hbsp; have hbuf1 := HBUF.out.alloc (.cells #[.int .i64 t, .string ⟨v.toArray⟩] 67); have hBwr : B ≤ wr.heap.size := by have := HB2.out.size; omega
       have hbel1 : Below B w0 (wr.alloc (.cells #[.int .i64 t, .string ⟨v.toArray⟩] 67)) := HB2.out.alloc hBwr _; have hEx : Ext wr (wr.alloc (.cells #[.int .i64 t, .string ⟨v.toArray⟩] 67)) := (Ext.refl _).alloc _; have hcx : (wr.alloc (.cells #[.int .i64 t, .string ⟨v.toArray⟩] 67)).cell? ⟨wr.heap.size, 0, none⟩ = some (.int .i64 t) ∧ (wr.alloc (.cells #[.int .i64 t, .string ⟨v.toArray⟩] 67)).cell? ⟨wr.heap.size, 1, none⟩ = some (.string ⟨v.toArray⟩) :=
        ⟨cell_of_row _ _ _ _ _ (0, 0) (heap_alloc_new _ _), cell_of_row _ _ _ _ _ (0, 0) (heap_alloc_new _ _)⟩
       have HBUF1 := Lib.hid hbuf1; have HBEL1 := Lib.hid hbel1; have HCX := Lib.hid hcx; have HBWR := Lib.hid hBwr; clear hbuf1 hbel1 hcx hBwr hEx; go_wp2_with fail; refine (valued_calls v _ hvok2).mono ?_; rw [HBV.out]; rintro e w' ⟨rfl, rfl⟩; cases bv with
       | false =>
        have e := HBAD.out rfl; subst e; have hXf : Ext w (wr.alloc (.cells #[.int .i64 t, .string ⟨v.toArray⟩] 67)) := hX.trans (Below.mono HBEL1.out (by omega)); go_wp2; go_ret2; exact ⟨⟨_, rfl, by simp⟩, hXf⟩
       | true =>
        have hit := Lib.itoa_length_le t HOK.out.1 HOK.out.2; have HIT := Lib.hid hit; clear hit; go_wp2_with fail; refine (Tryz.Buffer_Len B B _ _ HBUF1.out).mono ?_; rintro e w' ⟨rfl, n, rfl⟩; rw [byteCells_length']; by_cases hle : bs.length ≤ 1024
        · have hbs : bs' = bs ++ (Lib.itoa t ++ [61] ++ v ++ [1]) := by rw [HTAKE.out, if_pos hle]
          have HBS' := Lib.hid hbs; clear hbs; go_wp2_with fail; refine wp_gen fun w5 hw5 => ?_
          have HX : RowKit.Hid (w5.cell? ⟨wr.heap.size, 0, none⟩ = some (.int .i64 t) ∧ w5.cell? ⟨wr.heap.size, 1, none⟩ = some (.string ⟨v.toArray⟩)) := Lib.hid (by rw [← hw5]; exact HCX.out); have hb5 : Lib.IsBuffer 104 5 B B (Lib.byteCells bs) w5 := by rw [← hw5]; exact HBUF1.out.drewN n
          have hbel5 : Below B w0 w5 := by rw [← hw5]; exact HBEL1.out.trans (Joins.below_draws _ _ _)
          have hsz5 : wr.heap.size < w5.heap.size := by
           rw [← hw5]; exact lt_of_cell HCX.out.1
          replace HBUF := Lib.hid hb5
          have HBEL5 := Lib.hid hbel5; have HENV5 : RowKit.Hid (Env w5) := Lib.hid (HENV1.out.below HG.out hbel5); have HLE : RowKit.Hid (B ≤ w5.heap.size) := Lib.hid (by have := hbel5.size; omega); have HLIM : RowKit.Hid (bs.length + (Lib.itoa t ++ [61] ++ v).length ≤ 140737488354328) := Lib.hid (by
           have := HIT.out; have := HV.out; simp only [List.length_append, List.length_cons, List.length_nil]; omega)
          have ht := HOK.out; clear hb5 hbel5 hw5 q0 q1; generalize wr.heap.size = X at *; refine wp_region_turn (fun _ => by kernel_rfl) 7 (fun w'' => Lib.IsBuffer 104 5 B B (Lib.byteCells (bs ++ ((Lib.itoa t ++ [61]) ++ v))) w'' ∧ Below B w5 w'') [some (.pointer (some ⟨X, 0, none⟩)), some (.int .i64 t), some (.string ⟨(Lib.itoa t).toArray⟩), some (.string ⟨(Lib.itoa t ++ [61]).toArray⟩), some (.pointer (some ⟨X, 1, none⟩)), some (.string ⟨(v).toArray⟩), some (.string ⟨((Lib.itoa t ++ [61]) ++ v).toArray⟩), none] (by kernel_rfl) ?_ (by decide) ?_
          · refine And.intro ?_ (And.intro ?_ (And.intro ?_ (And.intro ?_ (And.intro ?_ (And.intro ?_ (And.intro ?_ (And.intro ?_ (True.intro))))))))
            · intro ρ w' hB hD; have e8 : ρ (.tmp 8) = _ := hB (.tmp 8) rfl; clear hB hD; refine ⟨fun hE => ?_, fun hno => absurd (show true = false from hno) (by decide)⟩; refine .inl ⟨rfl, ?_⟩; unfold Gives; go_simp; first | done | exact xr0 | exact xr1 | exact hS | exact ⟨hS, rfl⟩ | exact ⟨Ext.refl _, trivial⟩ | exact ⟨hS, trivial⟩
            · intro ρ w' hB hD; have e48 : ρ (.tmp 48) = .pointer (some ⟨X, 0, none⟩) := hD 0 48 rfl rfl; clear hB hD; refine ⟨fun hE => ?_, fun hno => absurd (show true = false from hno) (by decide)⟩; have q := hE.cell HX.out.1; refine .inl ⟨rfl, ?_⟩; unfold Gives; go_simp; first | done | exact xr0 | exact xr1 | exact hS | exact ⟨hS, rfl⟩ | exact ⟨Ext.refl _, trivial⟩ | exact ⟨hS, trivial⟩
            · intro ρ w' hB hD; have hB0 := fun f => hB (.func f) rfl
              have e49 : ρ (.tmp 49) = .int .i64 t := hD 1 49 rfl rfl; clear hB hD; refine ⟨fun hE => ?_, fun hno => absurd (show true = false from hno) (by decide)⟩; refine .inl ⟨rfl, ?_⟩; refine gives_call ent_num_Print (hB0 _) ?_; simp only [List.map_cons, List.map_nil, e49]; refine (print_calls t ht.1 ht.2 _ (HENV5.out.ext hE)).mono ?_; rintro e w'' ⟨rfl, hE2⟩; exact ⟨_, rfl, hE2, rfl⟩
            · intro ρ w' hB hD; have ec := ctK hB
              have e50 : ρ (.tmp 50) = .string ⟨(Lib.itoa t).toArray⟩ := hD 2 50 rfl rfl; clear hB hD; refine ⟨fun hE => ?_, fun hno => absurd (show true = false from hno) (by decide)⟩; refine .inl ⟨rfl, ?_⟩; unfold Gives; have hno : ¬ (9223372036854775807 < (Lib.itoa t).length + 1) := by have := HIT.out; have := HV.out; omega
              go_simp; exact ⟨Ext.refl _, congrArg Value.string (by first | exact ba_append _ _ | (rw [ba_append]; simp))⟩
            · intro ρ w' hB hD; have e8 : ρ (.tmp 8) = _ := hB (.tmp 8) rfl; clear hB hD; refine ⟨fun hE => ?_, fun hno => absurd (show true = false from hno) (by decide)⟩; refine .inl ⟨rfl, ?_⟩; unfold Gives; go_simp; first | done | exact xr0 | exact xr1 | exact hS | exact ⟨hS, rfl⟩ | exact ⟨Ext.refl _, trivial⟩ | exact ⟨hS, trivial⟩
            · intro ρ w' hB hD; have e52 : ρ (.tmp 52) = .pointer (some ⟨X, 1, none⟩) := hD 4 52 rfl rfl; clear hB hD; refine ⟨fun hE => ?_, fun hno => absurd (show true = false from hno) (by decide)⟩; have q := hE.cell HX.out.2; refine .inl ⟨rfl, ?_⟩; unfold Gives; go_simp; first | done | exact xr0 | exact xr1 | exact hS | exact ⟨hS, rfl⟩ | exact ⟨Ext.refl _, trivial⟩ | exact ⟨hS, trivial⟩
            · intro ρ w' hB hD; have e51 : ρ (.tmp 51) = .string ⟨(Lib.itoa t ++ [61]).toArray⟩ := hD 3 51 rfl rfl; have e53 : ρ (.tmp 53) = .string ⟨(v).toArray⟩ := hD 5 53 rfl rfl; clear hB hD; refine ⟨fun hE => ?_, fun hno => absurd (show true = false from hno) (by decide)⟩; refine .inl ⟨rfl, ?_⟩; unfold Gives; have hno : ¬ (9223372036854775807 < (Lib.itoa t).length + 1 + v.length) := by have := HIT.out; have := HV.out; omega
              go_simp; exact ⟨Ext.refl _, congrArg Value.string (by first | exact ba_append _ _ | (rw [ba_append]; simp))⟩
            · intro ρ w' hB hD; have hB0 := fun f => hB (.func f) rfl
              have e6 : ρ (.tmp 6) = _ := hB (.tmp 6) rfl; have e54 : ρ (.tmp 54) = .string ⟨((Lib.itoa t ++ [61]) ++ v).toArray⟩ := hD 6 54 rfl rfl; clear hB hD; refine ⟨fun hE => ?_, fun hno => absurd (show true = false from hno) (by decide)⟩; refine .inl ⟨rfl, ?_⟩; refine gives_call ent_bytes_Buffer_WriteString (hB0 _) ?_; simp only [List.map_cons, List.map_nil, e6, e54]; have hb7 := Lib.IsBuffer.old HBUF.out hE; refine (Tryz.Buffer_WriteString_k B B _ _ _ hb7 (Nat.le_trans HLE.out hE.size) (byteCells_one _) (by simp only [byteCells_length', basize]; have := HLIM.out; omega)).mono ?_; rintro e w'' ⟨rfl, h1, h2, h3⟩; exact ⟨_, rfl, ⟨by simpa [Lib.byteCells] using h1, (Below.mono hE HLE.out).trans h2⟩, trivial⟩
          intro a' w6 hS6 hd' hs' hB' hP'; obtain ⟨x55, hx55⟩ : ∃ x, a'.eval (.tmp 55) = x := ⟨_, rfl⟩
          have ha' := act_of_posts [(48, .pointer (some ⟨X, 0, none⟩)), (49, .int .i64 t), (50, .string ⟨(Lib.itoa t).toArray⟩), (51, .string ⟨(Lib.itoa t ++ [61]).toArray⟩), (52, .pointer (some ⟨X, 1, none⟩)), (53, .string ⟨(v).toArray⟩), (54, .string ⟨((Lib.itoa t ++ [61]) ++ v).toArray⟩), (55, x55)] hd' hs' hB' (by simp) (by kernel_rfl) (by
           intro p hp; simp only [List.mem_cons, List.mem_nil_iff, or_false] at hp
           rcases hp with rfl | rfl | rfl | rfl | rfl | rfl | rfl | rfl
           · exact hP' 0 48 rfl
           · exact hP' 1 49 rfl
           · exact hP' 2 50 rfl
           · exact hP' 3 51 rfl
           · exact hP' 4 52 rfl
           · exact hP' 5 53 rfl
           · exact hP' 6 54 rfl
           · exact hx55)
          clear hB' hP' hs' hd'; simp only [List.foldl_cons, List.foldl_nil, List.setIfInBounds_toArray, List.set_cons_succ, List.set_cons_zero] at ha'; subst ha'; clear hx55; obtain ⟨hbuf6, hbel6⟩ := hS6; have HB6 := Lib.hid hbuf6; have HBL6 := Lib.hid hbel6; clear hbuf6 hbel6; go_wp2_with fail; refine (Tryz.Buffer_WriteByte_k B B _ 1 _ HB6.out (Nat.le_trans HLE.out HBL6.out.size) (byteCells_one _) (by
           rw [byteCells_length', List.length_append]; have := HLIM.out; omega)).mono ?_
          rintro e w7 ⟨rfl, hb7, hbl7, _⟩; have hb7' : Lib.IsBuffer 104 5 B B (Lib.byteCells bs') w7 := by
           rw [HBS'.out]; simpa [Lib.byteCells] using hb7
          have hlen' : bs'.length ≤ 1099511628900 := by
           rw [HBS'.out]; have := HIT.out; have := HV.out; simp only [List.length_append, List.length_cons, List.length_nil]; omega
          have hbl : Below B w0 w7 := HBEL5.out.trans (HBL6.out.trans hbl7); have HR1 := Lib.hid hb7'; have HR2 := Lib.hid hlen'; have HR3 := Lib.hid hbl; clear hb7 hb7' hlen' hbl hbl7; go_wp2; go_roundw
          case rel => exact ⟨k + 1, by omega, by go_num, HR3.out, by rw [HBSP.out]; exact HR1.out, HGOOD.out trivial, by rw [HBSP.out]; exact HR2.out⟩
          case measure => simp [intOf]; omega
        · have hbs : bs' = bs := by rw [HTAKE.out, if_neg hle]
          subst hbs; have HR1 := Lib.hid (HBUF1.out.drewN n); have HR3 := Lib.hid (HBEL1.out.trans (Joins.below_draws B _ n)); go_wp2; go_roundw
          case rel => exact ⟨k + 1, by omega, by go_num, HR3.out, by rw [HBSP.out]; exact HR1.out, HGOOD.out trivial, by rw [HBSP.out]; exact HLEN.out⟩
          case measure => simp [intOf]; omega
     · obtain rfl : k = l.length := by omega
       rw [List.take_length] at HALL HBUF HLEN; have hfin : R = if 1024 < (framed (bodyOf [] l)).length then ([], 43) else (framed (bodyOf [] l), 0) := by
        rw [← HR.out]; unfold join; rw [if_neg (by rw [HA.out]; simp), if_neg (by rw [HALL.out]; simp)]
       have HFIN := Lib.hid hfin; clear hfin HALL HF1 HF HL HBUF0 HBEL HR HA; generalize bodyOf [] l = body at *; have hn0 : (-9223372036854775808 : Int) ≤ body.length := by omega
       have hn1 : (body.length : Int) ≤ 9223372036854775807 := by have := HLEN.out; omega
       have hit := Lib.itoa_length_le body.length hn0 hn1; have HIT := Lib.hid hit; have hs1 : ¬ (9223372036854775807 < 12 + (Lib.itoa body.length).length) := by omega
       have hs2 : ¬ (9223372036854775807 < 12 + (Lib.itoa body.length).length + 1) := by omega
       have hEnv : Env wr := HENV1.out.below HG.out HB2.out; have HENV2 := Lib.hid hEnv; have HN := Lib.hid (And.intro hn0 hn1); clear hit hEnv hn0 hn1; go_wp2_with fail; refine (Tryz.Buffer_Len B B _ _ HBUF.out).mono ?_; rintro e w' ⟨rfl, n, rfl⟩; rw [byteCells_length']; go_wp2_with fail; refine (print_calls body.length HN.out.1 HN.out.2 _ (HENV2.out.ext (Joins.below_draws _ _ _))).mono ?_; rintro e w3 ⟨rfl, hE3⟩; go_wp2_with fail; have hlen1 : (headOf ++ (Lib.itoa body.length ++ [1])).length ≤ 140737488355328 := by
        have := HIT.out; simp only [List.length_append, List.length_cons, List.length_nil, headOf]; omega
       have ho := own_convert w3 5 (headOf ++ (Lib.itoa body.length ++ [1])) hlen1; simp only [List.length_append, List.length_cons, List.length_nil, Nat.zero_add] at ho; have hE4 : Ext w3 (Lib.bytesWorld w3 5 ⟨(headOf ++ (Lib.itoa body.length ++ [1])).toArray⟩) := Joins.below_bytesWorld _ _ _ _ (Nat.le_refl _); have hEa : Ext (wr.drewN n) (Lib.bytesWorld w3 5 ⟨(headOf ++ (Lib.itoa body.length ++ [1])).toArray⟩) := hE3.trans hE4; have hsz : (wr.drewN n).heap.size = wr.heap.size := rfl; have hEb : Ext wr (Lib.bytesWorld w3 5 ⟨(headOf ++ (Lib.itoa body.length ++ [1])).toArray⟩) := (Joins.below_draws wr.heap.size wr n).trans (Below.mono hEa (Nat.le_of_eq hsz.symm)); have hBwr : B ≤ wr.heap.size := by have := HB2.out.size; omega
       have hbel4 : Below B w0 (Lib.bytesWorld w3 5 ⟨(headOf ++ (Lib.itoa body.length ++ [1])).toArray⟩) := HB2.out.trans (Below.mono hEb hBwr); have hbuf4 : Lib.IsBuffer 104 5 B B (Lib.byteCells body) (Lib.bytesWorld w3 5 ⟨(headOf ++ (Lib.itoa body.length ++ [1])).toArray⟩) := Lib.IsBuffer.old HBUF.out hEb; have hbw3 : w.heap.size ≤ w3.heap.size := by
        have h1 := HBS.out; have h3 := hE3.size; omega
       have ho4 : Own (Lib.bytesWorld w3 5 ⟨(headOf ++ (Lib.itoa body.length ++ [1])).toArray⟩) w.heap.size 5 _ _ := ho.more hbw3; have HO4 := Lib.hid ho4; have HBEL4 := Lib.hid hbel4; have HBUF4 := Lib.hid hbuf4; have HLEN1 := Lib.hid hlen1; clear ho ho4 hbel4 hbuf4 hE4 hlen1 hE3 hEa hEb hBwr hsz hbw3; generalize Lib.bytesWorld w3 5 ⟨(headOf ++ (Lib.itoa body.length ++ [1])).toArray⟩ = w4 at *; generalize Value.slice (some ⟨w3.heap.size, 0, none⟩) _ _ = v9 at *; refine (Tryz.Buffer_Bytes B B _ w4 HBUF4.out).mono ?_; rintro e w' ⟨v, rfl, hown, n2, rfl⟩; rw [byteCells_length'] at hown; obtain ⟨g5, c5, rfl, hg5, hg5'⟩ := hown.form HNE.out; have hcells5 : ∀ j u, (cellsOf body)[j]? = some u → (w4.drewN n2).cell? ((⟨g5, 0, none⟩ : Addr).add j) = some u := hown.cells (g := g5) rfl; have HC5 := Lib.hid hcells5; obtain ⟨i0, hi0, hz0, hz1, hz2⟩ := info_parts infoU8; have HO5 := Lib.hid (HO4.out.ext (Joins.below_draws _ _ n2)); have HI := Lib.hid (And.intro hi0 (And.intro hz0 (And.intro hz1 hz2))); have HLB : RowKit.Hid ((headOf ++ (Lib.itoa body.length ++ [1])).length + body.length ≤ 140737488355328) := Lib.hid (by
        have := HIT.out; have := HLEN.out; simp only [List.length_append, List.length_cons, List.length_nil, headOf]; omega)
       have HSZ5 : RowKit.Hid (w.heap.size ≤ (w4.drewN n2).heap.size) := Lib.hid (by
        have h1 := HBS.out; have h2 := HBEL4.out.size; have h4 : (w4.drewN n2).heap.size = w4.heap.size := rfl; omega)
       clear hown hg5 hg5' hcells5 hi0 hz0 hz1 hz2; go_wp2_with (first | (at_builtin; refine wpList_own_slice _ _ 25 5 i0 rfl (.tmp 63) (.tmp 64) rfl Tryz.underlying25 HI.out.1 HI.out.2.1 HI.out.2.2.1 HI.out.2.2.2 rfl _ _ rfl HO5.out _ _ body rfl HC5.out HLB.out HSZ5.out ?_; intro v6 w6 ho6 hg6; generalize hout : headOf ++ (Lib.itoa _ ++ [1]) ++ body = out at ho6; obtain ⟨g6, c6, rfl, hb6, hl6⟩ := ho6.form; have HO6 := Lib.hid ho6; have HG6 := Lib.hid hg6; have HOUT := Lib.hid hout; have HB6 := Lib.hid (And.intro hb6 hl6); clear ho6 hg6 hout hb6 hl6)); have hE5 : Ext w (w4.drewN n2) := Below.trans hX (Below.mono (HBEL4.out.trans (Joins.below_draws _ _ _)) HBS.out); have hE6 : Ext w w6 := hE5.grown HG6.out HSZ5.out (fun k hk => HO5.out.block hk); have holen : out.length ≤ 140737488355328 := by rw [← HOUT.out, List.length_append]; exact HLB.out
       have hs := sum_calls out (some ⟨g6, 0, none⟩) c6 w6.heap.size 1 (w6.alloc (.cells #[.slice (some ⟨g6, 0, none⟩) out.length c6] 25)) holen (cell_of_row _ _ _ _ _ (0, 0) (heap_alloc_new _ _)) ((Reads.of_own HO6.out).ext ((Ext.refl _).alloc _)); refine hs.mono ?_; rintro e w' ⟨rfl, rfl⟩; have hsm : sumOf out < 256 := by rw [sumOf_eq]; omega
       generalize hsmd : sumOf out = sm at *; have HSM := Lib.hid hsmd; clear hsmd hs; have hsm0 : (0 : Int) ≤ sm := by omega
       have hsm1 : (sm : Int) < 256 := by omega
       have hp := print_calls (1000 + sm) (by omega) (by omega) (w6.alloc (.cells #[.slice (some ⟨g6, 0, none⟩) out.length c6] 25)) (HENV.out.ext (hE6.alloc _)); obtain ⟨c0, ds, hds, hdl⟩ := itoa_four (1000 + sm) (by omega) (by omega); have hcast : ((1000 + sm : Nat) : Int) = 1000 + (sm : Int) := by omega
       rw [hcast] at hds; rw [hds] at hp; have HDS := Lib.hid hds; clear hds hcast; have HP := Lib.hid hp; have HE6 := Lib.hid hE6; clear hp hE5 hE6; go_wp2_with fail; refine HP.out.mono ?_; rintro e w7 ⟨rfl, hE7⟩; have hex := extractRule c0 ds 3 hdl; have hE7' : Ext w6 w7 := ((Ext.refl w6).alloc _).trans hE7; have HO7 := Lib.hid (HO6.out.ext hE7'); have HE7 := Lib.hid (HE6.out.trans hE7'); have HLB7 : RowKit.Hid (out.length + (tenIs ++ (ds ++ [1])).length ≤ 140737488355328) := Lib.hid (by
        have h1 := HLEN1.out; have h2 := HLEN.out; have h3 := HIT.out; rw [← HOUT.out]; simp only [List.length_append, List.length_cons, List.length_nil, headOf, tenIs]; omega)
       have HSZ7 : RowKit.Hid (w.heap.size ≤ w7.heap.size) := Lib.hid HE7.out.size; have htl : tenIs.length = 3 := rfl; clear hE7 hE7'; obtain ⟨i0, hi0, hz0, hz1, hz2⟩ := info_parts infoU8; have HI2 := Lib.hid (And.intro hi0 (And.intro hz0 (And.intro hz1 hz2))); clear hi0 hz0 hz1 hz2; go_wp2_with (first | (at_builtin; refine wpList_own_text _ _ 25 5 i0 rfl (.tmp 72) (.tmp 75) 9 rfl Tryz.underlying25 Tryz.underlying9 HI2.out.1 HI2.out.2.1 HI2.out.2.2.1 HI2.out.2.2.2 _ _ rfl HO7.out (tenIs ++ (ds ++ [1])) rfl HLB7.out HSZ7.out ?_; intro v8 w8 ho8 hg8; generalize hfr : out ++ (tenIs ++ (ds ++ [1])) = fr at ho8; obtain ⟨g8, c8, rfl, hb8, hl8⟩ := ho8.form; have HO8 := Lib.hid ho8; have HG8 := Lib.hid hg8; have HFR := Lib.hid hfr; clear ho8 hg8 hfr hb8 hl8))
       all_goals
        have hfr : framed body = fr := by
         rw [framed_eq, HOUT.out, HSM.out, HDS.out, ← HFR.out]; simp only [List.drop_succ_cons, List.drop_zero, tenIs, List.append_assoc]
        have hE8 : Ext w w8 := Ext.grown' HE7.out HG8.out HSZ7.out (fun k hk => HO7.out.block hk); have hR := HFIN.out; rw [hfr] at hR
       · have hle : 1024 < fr.length := by
          have h : (1024 : Int) < (fr.length : Int) := by assumption
          omega
         rw [if_pos hle] at hR; subst hR; go_ret2; exact ⟨⟨_, rfl, by simp⟩, hE8⟩
       · have hle : ¬ 1024 < fr.length := by
          have h : (fr.length : Int) ≤ 1024 := by first | assumption | omega
          omega
         rw [if_neg hle] at hR; subst hR; go_ret2; exact ⟨⟨_, rfl, by rw [if_pos rfl]; exact HO8.out⟩, hE8⟩
end
section
open Go Go.RowKit
set_option maxHeartbeats 1000000
attribute [local go_sem] ba_get
theorem digit_calls (c : UInt8) (w : World) : Calls Tryz.prog 229 #[.int .u8 (c.toNat : Int)] w fun e w' => e = .returned (.bool (isDigit c)) ∧ w = w' := by
 have hd : isDigit c = (decide (48 ≤ (c.toNat : Int)) && decide ((c.toNat : Int) ≤ 57)) := by
  rw [Bool.eq_iff_iff, isDigit_iff]; simp
  omega
 rw [hd]; clear hd; by_cases h1 : 48 ≤ (c.toNat : Int)
 · rw [decide_eq_true h1, Bool.true_and]; go_enter Tryz.func229, Tryz.ntmps229
   go_wp2; go_ret; exact ⟨rfl, rfl⟩
 · rw [decide_eq_false h1, Bool.false_and]; go_enter Tryz.func229, Tryz.ntmps229
   go_wp2; go_ret; exact ⟨rfl, rfl⟩
structure FaultAt (W w : World) (v : Value) (at_ err : Int) : Prop where
 is : ∃ g, v = .pointer (some ⟨g, 0, none⟩) ∧ W.heap.size ≤ g ∧ w.heap[g]? = some (.cells #[.int .i64 at_, .int .i64 err] 86)
theorem FaultAt.ext {W w w' : World} {v : Value} {a e : Int} (h : FaultAt W w v a e) (hE : Ext w w') : FaultAt W w' v a e := by
 obtain ⟨g, rfl, hg, hb⟩ := h.is; exact ⟨g, rfl, hg, hE.heap hb⟩
theorem FaultAt.more {W W' w : World} {v : Value} {a e : Int} (h : FaultAt W w v a e) (hE : Ext W' W) : FaultAt W' w v a e := by
 obtain ⟨g, rfl, hg, hb⟩ := h.is; exact ⟨g, rfl, Nat.le_trans hE.size hg, hb⟩
theorem fault_calls (k e : Int) (w : World) : Calls Tryz.prog 46 #[.int .i64 k, .int .i64 e] w fun en w' => (∃ v, en = .returned v ∧ FaultAt w w' v k e) ∧ Ext w w' := by
 go_enter Tryz.func46, Tryz.ntmps46
 go_wp2; go_ret; exact ⟨⟨_, rfl, ⟨_, rfl, Nat.le_refl _, heap_alloc_new _ _⟩⟩, (Ext.refl _).alloc _⟩
theorem digits_calls (s : List UInt8) (A : Option Addr) (cap k : Nat) (w : World) (hs : s.length ≤ 140737488355328) (hk : k ≤ 140737488355328) (hb : Reads w A s) :
 Calls Tryz.prog 149 #[.slice A s.length cap, .int .i64 k] w fun e w' => e = .returned (.int .i64 (digitsAt s k)) ∧ w = w' := by
 have HB := Lib.hid hb; obtain ⟨R, hR⟩ : ∃ R, digitsAt s k = R := ⟨_, rfl⟩
 rw [hR]; have HR := Lib.hid hR; clear hb hR; go_enter Tryz.func149, Tryz.ntmps149
 go_wp2; go_loop [5] (fun n => ∃ i : Nat, n = .int .i64 i ∧ (k + i ≤ s.length ∨ i = 0) ∧ digitsAt s (k + i) + i = R) (fun n => s.length - (k + (intOf n).toNat))
 case atStart => exact ⟨0, rfl, .inr rfl, by simpa using HR.out⟩
 case round =>
  obtain ⟨i, rfl, hi, hd⟩ := hrel; have HD := Lib.hid hd; clear hd; by_cases hlt : k + i < s.length
  · obtain ⟨ad, rfl, hc⟩ := HB.out.at hlt; by_cases hdig : isDigit s[k + i] = true
    · have e : digitsAt s (k + (i + 1)) + (i + 1) = R := by
       have h1 := HD.out; rw [digitsAt_step hlt hdig] at h1; have h2 : k + (i + 1) = k + i + 1 := by omega
       rw [h2]; omega
      have E := Lib.hid e; have HDIG := Lib.hid hdig; clear e hdig; generalize s[k + i] = c at *; have hlt' : ((k : Int) + (i : Int)) < (s.length : Int) := by omega
      go_wp2_with fail; refine (digit_calls c _).mono ?_; rw [HDIG.out]; rintro e w' ⟨rfl, rfl⟩; go_wp2; go_round
      case rel => exact ⟨i + 1, by go_num, .inl (by omega), E.out⟩
      case measure => simp [intOf]; omega
    · have hdig : isDigit s[k + i] = false := by simpa using hdig
      have e : i = R := by
       have h1 := HD.out; rw [digitsAt_stop (fun _ => hdig)] at h1; omega
      subst e; have HDIG := Lib.hid hdig; clear hdig; generalize s[k + i] = c at *; have hlt' : ((k : Int) + (i : Int)) < (s.length : Int) := by omega
      go_wp2_with fail; refine (digit_calls c _).mono ?_; rw [HDIG.out]; rintro e w' ⟨rfl, rfl⟩; go_wp2; go_ret; exact ⟨rfl, rfl⟩
  · have e : i = R := by
     have h1 := HD.out; rw [digitsAt_stop (fun h => absurd h hlt)] at h1; omega
    subst e; have hlt' : ¬ ((k : Int) + (i : Int)) < (s.length : Int) := by omega
    go_wp2; go_ret; exact ⟨rfl, rfl⟩
end
section
open Go Go.RowKit Go.Sort
set_option maxHeartbeats 1600000
theorem formatUint_inner (u : Nat) (hu64 : u < 18446744073709551616) (w : World) (hE : Env w) :
 Calls Tryz.prog 414 #[.int .u64 u, .int .i64 10] w fun e w' => e = .returned (.string ⟨(Lib.decDigits u).toArray⟩) ∧ Ext w w' := by
 have htab := hE.tab; clear hE; by_cases hs : u < 100
 · have hi : (u : Int) < 100 := by omega
   go_enter Tryz.func414, Tryz.ntmps414
   go_wp2_with (go_at_call 297; refine (Tryz.internal_strconv_small u hs _).mono ?_; rintro e w' ⟨rfl, rfl⟩); go_ret; exact ⟨rfl, Ext.refl _⟩
 · have hu1 : 1 ≤ u := by omega
   have iu : (100 : Int) ≤ (u : Int) := by omega
   have hnd20 : Lib.nDigits u ≤ 20 := by have := Lib.numDigits_eq u hu1 hu64; split at this <;> omega
   have hal : Tryz.prog.arrayLen 273 = 24 := by simp [Program.arrayLen, Tryz.underlying273]
   have hsl : ∀ W, (Instr.sliceAt 273 (.pointer (some ⟨w.heap.size, 0, none⟩)) none (some (.int .i64 (Lib.nDigits u : Int))) none).run Tryz.prog W = .ok (.slice (some ⟨w.heap.size, 0, none⟩) (Lib.nDigits u) 24) W := fun W => by
    rw [run_sliceAt_array_h W 273 ⟨w.heap.size, 0, none⟩ (by simp [Program.arrayLen, Program.elem, Tryz.underlying273]) .i64 (Lib.nDigits u : Int) (by omega) (by rw [hal]; omega)]; go_simp
   have hH0 := Lib.holds_zero0 w 273 (Lib.nDigits u) (by omega); have hfmt := Tryz.internal_strconv_formatBase10 w.heap.size 0 24 u (Array.replicate (Lib.nDigits u) 0) (w.alloc (.cells Lib.zeros24 273)) hH0 (by rw [Array.size_replicate]; exact Lib.lt_pow_nDigits u) hu64 (by rw [Array.size_replicate]; omega); rw [Array.size_replicate] at hfmt; have HH0 := Lib.hid hH0; clear hH0 hal; go_enter Tryz.func414, Tryz.ntmps414
   go_wp2_with (first
    | (go_at_call 298; refine (Tryz.internal_strconv_numDigits u hu1 hu64 _ (Lib.tabIs_alloc htab _)).mono ?_; rintro e w' ⟨rfl, rfl⟩))
   go_at_call 299
   refine hfmt.mono ?_; rintro e w' ⟨rfl, k, v', dk, rfl, hF⟩; have hcv : (convert 25 9 (.slice (some ⟨w.heap.size, 0, none⟩) (Lib.nDigits u) 24)).run Tryz.prog ((putRow (fun (b : UInt8) => Value.int .u8 (b.toNat : Int)) (w.alloc (.cells Lib.zeros24 273)) w.heap.size 0 dk).drewN k) = .ok (.string ⟨(Lib.decDigits u).toArray⟩) ((putRow (fun (b : UInt8) => Value.int .u8 (b.toNat : Int)) (w.alloc (.cells Lib.zeros24 273)) w.heap.size 0 dk).drewN k) := by
    have h := run_convert_bytes_back (P := Tryz.prog) ((putRow (fun (b : UInt8) => Value.int .u8 (b.toNat : Int)) (w.alloc (.cells Lib.zeros24 273)) w.heap.size 0 dk).drewN k) 25 9 5 ⟨w.heap.size, 0, none⟩ 24 (Lib.decDigits u) Tryz.underlying25 Tryz.underlying5 Tryz.underlying9 (fun j hj => by
     rw [Lib.row_is_numeral hF j hj, Lib.add_plain, World.cell?_drewN]; exact cell?_putRow (fun (b : UInt8) => Value.int .u8 (b.toNat : Int)) _ w.heap.size 0 _ dk HH0.out (by rw [hF.size, Array.size_replicate]) j (by rw [hF.size]; rw [Lib.decDigits_length] at hj; exact hj))
    rw [Lib.decDigits_length] at h; exact h
   obtain ⟨os, eo⟩ := Lib.fin_at w (.cells Lib.zeros24 273) dk k 0; have hX : Ext w ((putRow (fun (b : UInt8) => Value.int .u8 (b.toNat : Int)) (w.alloc (.cells Lib.zeros24 273)) w.heap.size 0 dk).drewN k) := by rw [eo]; exact Ext.grow (Joins.below_draws _ _ _) os
   have HX := Lib.hid hX; clear hX eo; go_wp2; go_ret; exact ⟨rfl, HX.out⟩
theorem formatUint_calls (u : Nat) (hu64 : u < 18446744073709551616) (w : World) (hE : Env w) :
 Calls Tryz.prog 397 #[.int .u64 u, .int .i64 10] w fun e w' => e = .returned (.string ⟨(Lib.decDigits u).toArray⟩) ∧ Ext w w' := by
 have H := Lib.hid (formatUint_inner u hu64 w hE); go_enter Tryz.func397, Tryz.ntmps397
 go_wp2_with (go_at_call 414; refine H.out.mono ?_; rintro e w' ⟨rfl, hX⟩); go_ret; exact ⟨rfl, hX⟩
theorem trimNoughts_eq (s : List UInt8) : Lib.trimRightB s 48 = trimNoughts s := by
 unfold Lib.trimRightB trimNoughts; rfl
theorem decDigits_short {u : Nat} (h : u < 100000000000000000000) : (Lib.decDigits u).length ≤ 20 := by
 rw [Lib.decDigits_length]; by_cases hu : 1 ≤ u
 · have hp : ∀ k u, 0 < k → u < 10 ^ k → Lib.nDigits u ≤ k := by
    intro k
    induction k with
    | zero => intro u h0; omega
    | succ k ih =>
     intro u _ h; by_cases hs : u < 10
     · rw [Lib.nDigits_small hs]; omega
     · rw [Lib.nDigits_big hs]; by_cases hk : k = 0
       · subst hk; simp at h; omega
       · have := ih (u / 10) (by omega) (by rw [Nat.pow_succ] at h; omega); omega
   exact hp 20 u (by decide) (by omega)
 · have : u = 0 := by omega
   subst this; rw [Lib.nDigits_small (by decide)]; decide
theorem trimNoughts_spec' (s : List UInt8) : ∃ t, s = trimNoughts s ++ t := by
 refine ⟨(s.reverse.takeWhile (· == 48)).reverse, ?_⟩; unfold trimNoughts; rw [← List.reverse_append, List.takeWhile_append_dropWhile, List.reverse_reverse]
theorem priceText (n : Nat) : priceOf (n : Int) = Lib.decDigits (n / 10000) ++ if n % 10000 = 0 then [] else 46 :: trimNoughts ((Lib.decDigits (10000 + n % 10000)).drop 1) := by
 unfold priceOf; have e1 : (n : Int) / 10000 = ((n / 10000 : Nat) : Int) := by omega
 have e2 : (n : Int) % 10000 = ((n % 10000 : Nat) : Int) := by omega
 have e3 : (10000 : Int) + ((n % 10000 : Nat) : Int) = ((10000 + n % 10000 : Nat) : Int) := by omega
 rw [e1, e2, e3, Lib.itoa_nonneg, Lib.itoa_nonneg]; congr 1
 by_cases h : n % 10000 = 0
 · rw [if_pos h, if_pos (by omega)]
 · rw [if_neg h, if_neg (by omega)]
theorem ba_drop1 (l : List UInt8) : (ByteArray.mk l.toArray).extract 1 l.length = ByteArray.mk (l.drop 1).toArray := by
 apply ByteArray.ext
 simp only [ByteArray.data_extract, List.extract_toArray, List.extract_eq_take_drop]; rw [List.take_of_length_le (by simp)]
theorem ba_nil (m : List UInt8) : ByteArray.mk #[] ++ ByteArray.mk m.toArray = ByteArray.mk m.toArray := by
 apply ByteArray.ext; simp [ByteArray.data_append]
theorem ba_cons (c : UInt8) (m : List UInt8) : ByteArray.mk #[c] ++ ByteArray.mk m.toArray = ByteArray.mk (c :: m).toArray := by
 apply ByteArray.ext; simp [ByteArray.data_append]
attribute [local go_sem] ba_append ba_nil ba_cons
theorem printPrice_calls (n : Nat) (hn : n ≤ 1000000000) (w : World) (hE : Env w) :
 Calls Tryz.prog 360 #[.int .i64 n] w fun e w' => e = .returned (.string ⟨(priceOf n).toArray⟩) ∧ Ext w w' := by
 rw [priceText]; have h0 : (0 : Int) ≤ (n : Int) := by omega
 have h1 : (n : Int) ≤ 1000000000 := by omega
 have HQ := Lib.hid (formatUint_calls (n / 10000) (by omega) w hE); have hq : ((n / 10000 : Nat) : Int) = (n : Int) / 10000 := by omega
 rw [hq] at HQ; have HE := Lib.hid hE; clear hq hE; have hDl : (Lib.decDigits (n / 10000)).length ≤ 20 := decDigits_short (by omega); obtain ⟨D, hD⟩ : ∃ D, Lib.decDigits (n / 10000) = D := ⟨_, rfl⟩
 rw [hD] at HQ hDl ⊢; clear hD; by_cases hz : n % 10000 = 0
 · rw [if_pos hz]; have hz2 : ((n : Int) % 10000 != 0) = false := by simp; omega
   rw [List.append_nil]; clear hz; go_enter Tryz.func360, Tryz.ntmps360
   go_wp2_with fail; refine HQ.out.mono ?_; rintro e w1 ⟨rfl, hX⟩; go_wp2; go_ret; exact ⟨rfl, hX⟩
 · rw [if_neg hz]; have HF := Lib.hid fun w1 (h : Env w1) => formatUint_calls (10000 + n % 10000) (by omega) w1 h
   have hcast : (((10000 + n % 10000 : Nat)) : Int) = 10000 + (n : Int) % 10000 := by omega
   have hz2 : ((n : Int) % 10000 != 0) = true := by simp; omega
   have hlen2 : 1 ≤ (Lib.decDigits (10000 + n % 10000)).length := by rw [Lib.decDigits_length]; exact Lib.nDigits_pos _
   have hFl : (Lib.decDigits (10000 + n % 10000)).length ≤ 20 := decDigits_short (by omega); obtain ⟨F, hF⟩ : ∃ F, Lib.decDigits (10000 + n % 10000) = F := ⟨_, rfl⟩
   rw [hF] at HF hlen2 hFl ⊢; rw [hcast] at HF; have HTR := Lib.hid (fun w1 => Tryz.strings_TrimRight_one ⟨(F.drop 1).toArray⟩ 48 (by decide) w1 (by simp [ByteArray.size]; omega)); have htn : trimNoughts (F.drop 1) = Lib.trimRightB (F.drop 1) 48 := (trimNoughts_eq _).symm; have hTl : (Lib.trimRightB (F.drop 1) 48).length ≤ 20 := by
    obtain ⟨k, hk⟩ := trimNoughts_spec' (F.drop 1); rw [← htn]; have := congrArg List.length hk; rw [List.length_append, List.length_drop] at this; omega
   rw [htn]; obtain ⟨T, hT⟩ : ∃ T, Lib.trimRightB (F.drop 1) 48 = T := ⟨_, rfl⟩
   rw [hT] at hTl ⊢; have hT2 : ∀ w1, Calls Tryz.prog 398 #[.string ((ByteArray.mk F.toArray).extract 1 F.length), .string ⟨#[48]⟩] w1 fun e w' => e = .returned (.string ⟨T.toArray⟩) ∧ w' = w1 := by
    intro w1; rw [ba_drop1, ← hT]; have := HTR.out w1; simpa using this
   have HT2 := Lib.hid hT2; clear hF hcast hz htn hT HTR hT2; go_enter Tryz.func360, Tryz.ntmps360
   go_wp2_with fail; refine HQ.out.mono ?_; rintro e w1 ⟨rfl, hX⟩; go_wp2_with fail; refine (HF.out w1 (HE.out.ext hX)).mono ?_; rintro e w2 ⟨rfl, hX2⟩; go_wp2_with fail; refine (HT2.out w2).mono ?_; rintro e w3 ⟨rfl, rfl⟩; go_wp2; go_ret; exact ⟨rfl, hX.trans hX2⟩
end
section
open Go Go.RowKit Go.Sort
set_option maxHeartbeats 1600000
attribute [local go_sem] ba_get ba_append ba_nil ba_cons
theorem index_one (c : UInt8) : ∀ s : List UInt8, (c ∈ s → Lib.index s [c] = (s.takeWhile (· != c)).length) ∧ (c ∉ s → Lib.index s [c] = -1)
 | [] => ⟨fun h => by simp at h, fun _ => rfl⟩
 | b :: l => by
  obtain ⟨h1, h2⟩ := index_one c l; unfold Lib.index; by_cases hb : b = c
  · subst hb; refine ⟨fun _ => ?_, fun h => absurd (by simp) h⟩; simp [List.isPrefixOf, List.takeWhile_cons]
  · have hp : List.isPrefixOf [c] (b :: l) = false := by simp [List.isPrefixOf]; exact fun e => hb e.symm
    have hb' : (b != c) = true := by simpa using hb
    rw [hp]; refine ⟨fun h => ?_, fun h => ?_⟩
    · have hl : c ∈ l := by
       rcases List.mem_cons.1 h with h | h
       · exact absurd h.symm hb
       · exact h
      rw [h1 hl, List.takeWhile_cons, if_pos hb']; simp
      try omega
    · have hl : c ∉ l := fun e => h (by simp [e])
      rw [h2 hl]; simp
theorem drop_takeWhile (p : UInt8 → Bool) (s : List UInt8) : s.drop (s.takeWhile p).length = s.dropWhile p := by
 induction s with
 | nil => rfl
 | cons c r ih =>
  by_cases h : p c = true
  · simp [List.takeWhile_cons, List.dropWhile_cons, h, ih]
  · simp [List.takeWhile_cons, List.dropWhile_cons, h]
theorem takeWhile_no (c : UInt8) (s : List UInt8) (h : c ∉ s) : s.takeWhile (· != c) = s ∧ s.dropWhile (· != c) = [] := by
 induction s with
 | nil => exact ⟨rfl, rfl⟩
 | cons b r ih =>
  have hb : (b != c) = true := by simp; rintro rfl; exact h (by simp)
  obtain ⟨i1, i2⟩ := ih (fun e => h (by simp [e])); simp only [List.takeWhile_cons, List.dropWhile_cons, hb, if_true, i1, i2]; exact ⟨trivial, trivial⟩
theorem cut_one (c : UInt8) (s : List UInt8) : Lib.cut s [c] = (s.takeWhile (· != c), (s.dropWhile (· != c)).drop 1, s.contains c) := by
 obtain ⟨h1, h2⟩ := index_one c s; unfold Lib.cut; by_cases h : c ∈ s
 · rw [h1 h, if_pos (by omega)]; have hc : s.contains c = true := by simpa using h
   rw [hc]; simp only [Int.toNat_natCast, List.length_cons, List.length_nil]; rw [← drop_takeWhile, List.drop_drop]; refine Prod.ext ?_ rfl; exact (List.prefix_iff_eq_take.1 (List.takeWhile_prefix _)).symm
 · rw [h2 h, if_neg (by decide)]; have hc : s.contains c = false := by simpa using h
   obtain ⟨t1, t2⟩ := takeWhile_no c s h; rw [hc, t1, t2]; rfl
theorem cut_calls (s : List UInt8) (hs : s.length < 4294967281) (w : World) (hE : Env w) :
 Calls Tryz.prog 399 #[.string ⟨s.toArray⟩, .string ⟨#[46]⟩] w fun e w' => e = .returned (.tuple #[.string ⟨(s.takeWhile (· != 46)).toArray⟩, .string ⟨((s.dropWhile (· != 46)).drop 1).toArray⟩, .bool (s.contains 46)]) ∧ Ext w w' := by
 obtain ⟨m, hm⟩ := hE.most; refine (Any.strings_Cut { Tryz.laysM145 with } ⟨s.toArray⟩ ⟨#[46]⟩ m w (by simp [ByteArray.size]; omega) hm).mono ?_; rintro e w' ⟨rfl, n, rfl⟩; refine ⟨?_, Joins.below_draws _ _ _⟩; have := cut_one 46 s; simp only [this]
def zeros4 : List UInt8 := [48, 48, 48, 48]
theorem zeros_slice (n : Nat) (h : n ≤ 4) : (ByteArray.mk #[48, 48, 48, 48]).extract n 4 = ByteArray.mk (zeros4.drop n).toArray := by
 have : n = 0 ∨ n = 1 ∨ n = 2 ∨ n = 3 ∨ n = 4 := by omega
 rcases this with rfl | rfl | rfl | rfl | rfl <;> rfl
theorem part_facts {R : List UInt8} (hd : R.all isDigit = true) (hl : R.length ≤ 4) : (49 :: R ++ zeros4.drop R.length).all isDigit = true ∧ (10000 : Int) ≤ (natOf (49 :: R ++ zeros4.drop R.length) : Int) ∧ (natOf (49 :: R ++ zeros4.drop R.length) : Int) ≤ 19999 := by
 have hz : (zeros4.drop R.length).all isDigit = true := by
  rw [List.all_eq_true]; intro x hx; have : ∀ x ∈ zeros4, isDigit x = true := by decide
  exact this x (List.mem_of_mem_drop hx)
 have hall : (R ++ zeros4.drop R.length).all isDigit = true := by rw [List.all_append, hd, hz]; rfl
 have hlen : (R ++ zeros4.drop R.length).length = 4 := by
  have : zeros4.length = 4 := rfl; rw [List.length_append, List.length_drop, this]; omega
 have hlt := natOf_lt hall; have hc := natOf_cons_digits (R ++ zeros4.drop R.length); rw [hlen] at hlt hc; rw [List.cons_append, hc]; refine ⟨?_, by omega, by omega⟩; rw [List.all_cons, hall]; decide
theorem parsePrice_calls (s : List UInt8) (w : World) (hs : s.length < 4294967281) (hE : Env w) :
 Calls Tryz.prog 362 #[.string ⟨s.toArray⟩] w fun e w' => e = .returned (.tuple #[.int .i64 (parsePrice s).1, .int .i64 (parsePrice s).2]) ∧ Ext w w' := by
 obtain ⟨r, hr⟩ : ∃ r, parsePrice s = r := ⟨_, rfl⟩
 rw [hr]; have HC := Lib.hid (cut_calls s hs w hE); have HE := Lib.hid hE; unfold parsePrice at hr; have hWl : (s.takeWhile (· != 46)).length ≤ s.length := (List.takeWhile_prefix _).length_le; have hRl : ((s.dropWhile (· != 46)).drop 1).length ≤ s.length := by
  rw [List.length_drop]; have := (List.dropWhile_suffix (l := s) (· != 46)).length_le; omega
 have hRp : s.contains 46 = false → (s.dropWhile (· != 46)).drop 1 = [] := by
  intro h; rw [(takeWhile_no 46 s (by simpa using h)).2]; rfl
 generalize s.takeWhile (· != 46) = W at *; generalize (s.dropWhile (· != 46)).drop 1 = R at *; generalize s.contains 46 = P at *; have HNW := Lib.hid fun w1 => numeral_calls W w1 (by omega)
 clear hE; simp only at hr; by_cases hW : numeral W = true
 · obtain ⟨hW0, hWd⟩ := numeral_digits hW; rw [hW] at hr HNW; simp only [Bool.not_true, Bool.false_or] at hr; cases P with
   | false =>
    have hRn := hRp rfl; subst hRn; simp only [Bool.false_and, Bool.false_eq_true, if_false] at hr; have hRd : ([] : List UInt8).all isDigit = true := rfl; have hR4 : ([] : List UInt8).length ≤ 4 := by decide
    clear hRp hW; have HG := Lib.hid fun w1 (h : Env w1) => great_calls W w1 (by omega) hW0 hWd h
    obtain ⟨n, hn⟩ : ∃ n, natOf W = n := ⟨_, rfl⟩
    obtain ⟨q, hq⟩ : ∃ q : Nat, natOf (49 :: ([] : List UInt8) ++ zeros4.drop ([] : List UInt8).length) = q := ⟨_, rfl⟩
    obtain ⟨hTd, hq1, hq2⟩ := part_facts hRd hR4; have HT := Lib.hid fun w1 (h : Env w1) => great_calls (49 :: ([] : List UInt8) ++ zeros4.drop ([] : List UInt8).length) w1 (by simp [zeros4] <;> omega) (by simp) hTd h
    have hzs := zeros_slice ([] : List UInt8).length hR4; have HZ := Lib.hid hzs; change (if greatest < natOf W ∨ 100000 < natOf W then ((0 : Int), (11 : Int)) else if 1000000000 < (natOf W : Int) * 10000 + (natOf (49 :: ([] : List UInt8) ++ zeros4.drop ([] : List UInt8).length) : Int) - 10000 then (0, 11) else ((natOf W : Int) * 10000 + (natOf (49 :: ([] : List UInt8) ++ zeros4.drop ([] : List UInt8).length) : Int) - 10000, 0)) = r at hr; rw [hn] at HG hr; rw [hq] at HT hq1 hq2 hr; rw [if_pos (by unfold greatest; omega), decide_eq_true (by unfold greatest; omega)] at HT; have HN := Lib.hid hn; have HQ := Lib.hid hq; have HRR := Lib.hid hr; clear hn hq hTd hRd hW0 hWd hzs hr; obtain ⟨T, hT⟩ : ∃ T, 49 :: ([] : List UInt8) ++ zeros4.drop ([] : List UInt8).length = T := ⟨_, rfl⟩
    have hcat : ByteArray.mk #[49] ++ (ByteArray.mk #[48, 48, 48, 48]).extract 0 4 = ByteArray.mk T.toArray := by rw [← hT]; rfl
    rw [hT] at HT; have HCAT := Lib.hid hcat; have hTl : T.length ≤ 10 := by rw [← hT]; simp [zeros4] <;> omega
    clear hT hcat; by_cases hg : n ≤ greatest
    · have hgi : (n : Int) ≤ 9223372036854775807 := by unfold greatest at hg; omega
      by_cases hm : 100000 < n
      · have e : r = (0, 11) := by rw [← HRR.out, if_pos (Or.inr hm)]
        subst e; have hmi : (100000 : Int) < (n : Int) := by omega
        rw [if_pos hg, decide_eq_true hg] at HG; clear hg hm; go_enter Tryz.func362, Tryz.ntmps362
        go_wp2_with fail; refine HC.out.mono ?_; rintro e w1 ⟨rfl, hX⟩; go_wp2_with fail; refine (HNW.out w1).mono ?_; rintro e w2 ⟨rfl, rfl⟩; go_wp2_with fail; refine (HG.out w1 (HE.out.ext hX)).mono ?_; rintro e w2 ⟨rfl, hX2⟩; go_wp2; go_ret2; exact ⟨rfl, hX.trans hX2⟩
      · have hmi : (n : Int) ≤ 100000 := by omega
        have hn0 : (0 : Int) ≤ (n : Int) := by omega
        rw [if_pos hg, decide_eq_true hg] at HG; have hr2 := HRR.out; rw [if_neg (by unfold greatest; omega)] at hr2; by_cases hbig : 1000000000 < (n : Int) * 10000 + (q : Int) - 10000
        · rw [if_pos hbig] at hr2; subst hr2; clear hg hm; go_enter Tryz.func362, Tryz.ntmps362
          go_wp2_with fail; refine HC.out.mono ?_; rintro e w1 ⟨rfl, hX⟩; go_wp2_with fail; refine (HNW.out w1).mono ?_; rintro e w2 ⟨rfl, rfl⟩; go_wp2_with fail; refine (HG.out w1 (HE.out.ext hX)).mono ?_; rintro e w2 ⟨rfl, hX2⟩; go_wp2_with fail; rw [HCAT.out]; refine (HT.out w2 ((HE.out.ext hX).ext hX2)).mono ?_; rintro e w3 ⟨rfl, hX3⟩; go_wp2; go_ret2; exact ⟨rfl, hX.trans (hX2.trans hX3)⟩
        · rw [if_neg hbig] at hr2; subst hr2; clear hg hm; go_enter Tryz.func362, Tryz.ntmps362
          go_wp2_with fail; refine HC.out.mono ?_; rintro e w1 ⟨rfl, hX⟩; go_wp2_with fail; refine (HNW.out w1).mono ?_; rintro e w2 ⟨rfl, rfl⟩; go_wp2_with fail; refine (HG.out w1 (HE.out.ext hX)).mono ?_; rintro e w2 ⟨rfl, hX2⟩; go_wp2_with fail; rw [HCAT.out]; refine (HT.out w2 ((HE.out.ext hX).ext hX2)).mono ?_; rintro e w3 ⟨rfl, hX3⟩; go_wp2; go_ret2; exact ⟨rfl, hX.trans (hX2.trans hX3)⟩
    · have e : r = (0, 11) := by rw [← HRR.out, if_pos (Or.inl (by omega))]
      subst e; rw [if_neg hg, decide_eq_false hg] at HG; clear hg; go_enter Tryz.func362, Tryz.ntmps362
      go_wp2_with fail; refine HC.out.mono ?_; rintro e w1 ⟨rfl, hX⟩; go_wp2_with fail; refine (HNW.out w1).mono ?_; rintro e w2 ⟨rfl, rfl⟩; go_wp2_with fail; refine (HG.out w1 (HE.out.ext hX)).mono ?_; rintro e w2 ⟨rfl, hX2⟩; go_wp2; go_ret2; exact ⟨rfl, hX.trans hX2⟩
   | true =>
    clear hRp hW; simp only [Bool.true_and] at hr; by_cases hb : (R.isEmpty || decide (4 < R.length) || !numeral (49 :: R)) = true
    · rw [if_pos hb] at hr; subst hr; by_cases hR0 : R = []
      · subst hR0; clear hb; go_enter Tryz.func362, Tryz.ntmps362
        go_wp2_with fail; refine HC.out.mono ?_; rintro e w1 ⟨rfl, hX⟩; go_wp2_with fail; refine (HNW.out w1).mono ?_; rintro e w2 ⟨rfl, rfl⟩; go_wp2_with fail; go_wp2; go_ret2; exact ⟨rfl, hX⟩
      · have hR1 : (!R.isEmpty) = true := by simpa using hR0
        by_cases hR4 : 4 < R.length
        · have hR4i : (4 : Int) < (R.length : Int) := by omega
          clear hb; go_enter Tryz.func362, Tryz.ntmps362
          go_wp2_with fail; refine HC.out.mono ?_; rintro e w1 ⟨rfl, hX⟩; go_wp2_with fail; refine (HNW.out w1).mono ?_; rintro e w2 ⟨rfl, rfl⟩; go_wp2_with fail; go_wp2; go_ret2; exact ⟨rfl, hX⟩
        · have hR4i : ¬ (4 : Int) < (R.length : Int) := by omega
          have hnum : numeral (49 :: R) = false := by
           cases R with
           | nil => exact absurd rfl hR0
           | cons c t =>
            simp only [List.isEmpty_cons, Bool.false_or, Bool.or_eq_true, decide_eq_true_eq, Bool.not_eq_true'] at hb; exact hb.resolve_left hR4
          have HN1 := Lib.hid fun w1 => numeral_calls (49 :: R) w1 (by simp; omega)
          rw [hnum] at HN1; clear hb hnum; go_enter Tryz.func362, Tryz.ntmps362
          go_wp2_with fail; refine HC.out.mono ?_; rintro e w1 ⟨rfl, hX⟩; go_wp2_with fail; refine (HNW.out w1).mono ?_; rintro e w2 ⟨rfl, rfl⟩; go_wp2_with fail; refine (HN1.out w1).mono ?_; rintro e w2 ⟨rfl, rfl⟩; go_wp2_with fail; go_wp2; go_ret2; exact ⟨rfl, hX⟩
    · rw [if_neg hb] at hr; have hb : (R.isEmpty || decide (4 < R.length) || !numeral (49 :: R)) = false := by simpa using hb
      simp only [Bool.or_eq_false_iff, decide_eq_false_iff_not, Bool.not_eq_false'] at hb; obtain ⟨⟨hR0, hR4'⟩, hnum⟩ := hb; have hR4 : R.length ≤ 4 := by omega
      have hR4i : (R.length : Int) ≤ 4 := by omega
      have hR1 : (!R.isEmpty) = true := by rw [hR0]; rfl
      have hR0' : R ≠ [] := by rintro rfl; cases hR0
      have HN1 := Lib.hid fun w1 => numeral_calls (49 :: R) w1 (by simp; omega)
      have hRd : R.all isDigit = true := by
       have := (numeral_digits hnum).2; rw [List.all_cons, Bool.and_eq_true] at this; exact this.2
      rw [hnum] at HN1; clear hnum hR4'; have HG := Lib.hid fun w1 (h : Env w1) => great_calls W w1 (by omega) hW0 hWd h
      obtain ⟨n, hn⟩ : ∃ n, natOf W = n := ⟨_, rfl⟩
      obtain ⟨q, hq⟩ : ∃ q : Nat, natOf (49 :: R ++ zeros4.drop R.length) = q := ⟨_, rfl⟩
      obtain ⟨hTd, hq1, hq2⟩ := part_facts hRd hR4; have HT := Lib.hid fun w1 (h : Env w1) => great_calls (49 :: R ++ zeros4.drop R.length) w1 (by simp [zeros4] <;> omega) (by simp) hTd h
      have hzs := zeros_slice R.length hR4; have HZ := Lib.hid hzs; change (if greatest < natOf W ∨ 100000 < natOf W then ((0 : Int), (11 : Int)) else if 1000000000 < (natOf W : Int) * 10000 + (natOf (49 :: R ++ zeros4.drop R.length) : Int) - 10000 then (0, 11) else ((natOf W : Int) * 10000 + (natOf (49 :: R ++ zeros4.drop R.length) : Int) - 10000, 0)) = r at hr; rw [hn] at HG hr; rw [hq] at HT hq1 hq2 hr; rw [if_pos (by unfold greatest; omega), decide_eq_true (by unfold greatest; omega)] at HT; have HN := Lib.hid hn; have HQ := Lib.hid hq; have HRR := Lib.hid hr; clear hn hq hTd hRd hW0 hWd hzs hr; obtain ⟨T, hT⟩ : ∃ T, 49 :: R ++ zeros4.drop R.length = T := ⟨_, rfl⟩
      have hcat : ByteArray.mk (49 :: R).toArray ++ (ByteArray.mk #[48, 48, 48, 48]).extract R.length 4 = ByteArray.mk T.toArray := by rw [HZ.out, ba_append, hT]
      rw [hT] at HT; have HCAT := Lib.hid hcat; have hTl : T.length ≤ 10 := by rw [← hT]; simp [zeros4] <;> omega
      clear hT hcat; by_cases hg : n ≤ greatest
      · have hgi : (n : Int) ≤ 9223372036854775807 := by unfold greatest at hg; omega
        by_cases hm : 100000 < n
        · have e : r = (0, 11) := by rw [← HRR.out, if_pos (Or.inr hm)]
          subst e; have hmi : (100000 : Int) < (n : Int) := by omega
          rw [if_pos hg, decide_eq_true hg] at HG; clear hg hm; go_enter Tryz.func362, Tryz.ntmps362
          go_wp2_with fail; refine HC.out.mono ?_; rintro e w1 ⟨rfl, hX⟩; go_wp2_with fail; refine (HNW.out w1).mono ?_; rintro e w2 ⟨rfl, rfl⟩; go_wp2_with fail; refine (HN1.out w1).mono ?_; rintro e w2 ⟨rfl, rfl⟩; go_wp2_with fail; refine (HG.out w1 (HE.out.ext hX)).mono ?_; rintro e w2 ⟨rfl, hX2⟩; go_wp2; go_ret2; exact ⟨rfl, hX.trans hX2⟩
        · have hmi : (n : Int) ≤ 100000 := by omega
          have hn0 : (0 : Int) ≤ (n : Int) := by omega
          rw [if_pos hg, decide_eq_true hg] at HG; have hr2 := HRR.out; rw [if_neg (by unfold greatest; omega)] at hr2; by_cases hbig : 1000000000 < (n : Int) * 10000 + (q : Int) - 10000
          · rw [if_pos hbig] at hr2; subst hr2; clear hg hm; go_enter Tryz.func362, Tryz.ntmps362
            go_wp2_with fail; refine HC.out.mono ?_; rintro e w1 ⟨rfl, hX⟩; go_wp2_with fail; refine (HNW.out w1).mono ?_; rintro e w2 ⟨rfl, rfl⟩; go_wp2_with fail; refine (HN1.out w1).mono ?_; rintro e w2 ⟨rfl, rfl⟩; go_wp2_with fail; refine (HG.out w1 (HE.out.ext hX)).mono ?_; rintro e w2 ⟨rfl, hX2⟩; go_wp2_with fail; rw [HCAT.out]; refine (HT.out w2 ((HE.out.ext hX).ext hX2)).mono ?_; rintro e w3 ⟨rfl, hX3⟩; go_wp2; go_ret2; exact ⟨rfl, hX.trans (hX2.trans hX3)⟩
          · rw [if_neg hbig] at hr2; subst hr2; clear hg hm; go_enter Tryz.func362, Tryz.ntmps362
            go_wp2_with fail; refine HC.out.mono ?_; rintro e w1 ⟨rfl, hX⟩; go_wp2_with fail; refine (HNW.out w1).mono ?_; rintro e w2 ⟨rfl, rfl⟩; go_wp2_with fail; refine (HN1.out w1).mono ?_; rintro e w2 ⟨rfl, rfl⟩; go_wp2_with fail; refine (HG.out w1 (HE.out.ext hX)).mono ?_; rintro e w2 ⟨rfl, hX2⟩; go_wp2_with fail; rw [HCAT.out]; refine (HT.out w2 ((HE.out.ext hX).ext hX2)).mono ?_; rintro e w3 ⟨rfl, hX3⟩; go_wp2; go_ret2; exact ⟨rfl, hX.trans (hX2.trans hX3)⟩
      · have e : r = (0, 11) := by rw [← HRR.out, if_pos (Or.inl (by omega))]
        subst e; rw [if_neg hg, decide_eq_false hg] at HG; clear hg; go_enter Tryz.func362, Tryz.ntmps362
        go_wp2_with fail; refine HC.out.mono ?_; rintro e w1 ⟨rfl, hX⟩; go_wp2_with fail; refine (HNW.out w1).mono ?_; rintro e w2 ⟨rfl, rfl⟩; go_wp2_with fail; refine (HN1.out w1).mono ?_; rintro e w2 ⟨rfl, rfl⟩; go_wp2_with fail; refine (HG.out w1 (HE.out.ext hX)).mono ?_; rintro e w2 ⟨rfl, hX2⟩; go_wp2; go_ret2; exact ⟨rfl, hX.trans hX2⟩
 · have hW : numeral W = false := by simpa using hW
   rw [hW] at hr HNW; simp only [Bool.not_false, Bool.true_or, if_true] at hr; subst hr; clear hRp; go_enter Tryz.func362, Tryz.ntmps362
   go_wp2_with fail; refine HC.out.mono ?_; rintro e w1 ⟨rfl, hX⟩; go_wp2_with fail; refine (HNW.out w1).mono ?_; rintro e w2 ⟨rfl, rfl⟩; go_wp2; go_ret2; exact ⟨rfl, hX⟩
end
end Go.Proofs.YtdmjinlgdkgoiaaGreatDoor
