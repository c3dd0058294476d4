/- Of the layer fix: Pure, NumPure, FieldsPure, SplitPure, StampPure, ReadPure, PricePure, FixPure, NumBack, JoinBack, FormBack. -/
import Derived.Lib.ParseIntB
import Derived.Lib.ItoaNum
set_option linter.unusedVariables false
set_option linter.unusedSimpArgs false
set_option maxRecDepth 100000
namespace Go.Proofs.YtdmjinlgdkgoiaaGreatDoor
section
inductive Cell where
 | I (n : Int)
 | S (s : List UInt8)
 | B (b : Bool)
 deriving DecidableEq
inductive Ty where
 | I
 | S
 | B
 deriving DecidableEq
def Cell.ty : Cell → Ty
 | .I _ => .I
 | .S _ => .S
 | .B _ => .B
abbrev Msg := List Cell
inductive What where
 | num
 | truth
 | name
 | id
 | symbol
 | text
 | test
 | date
 deriving DecidableEq
structure Row where
 num : Int
 what : What
 lo : Int
 hi : Int
 zero : Bool
 must : Nat
 may : Nat
 deriving DecidableEq
def bits (l : List Nat) : Nat := l.foldl (fun s k => s ||| 1 <<< k) 0
def allK : Nat := 262142
def maxSeq : Int := 999999999
def maxPrice : Int := 1000000000
def maxQty : Int := 1000000
def maxTime : Int := 253402300799999
def named : List Nat := [8, 9, 10, 12, 13]
def rows : List Row := [
 ⟨49, .name, 0, 0, false, allK, 0⟩,
 ⟨56, .name, 0, 0, false, allK, 0⟩,
 ⟨34, .num, 1, maxSeq, false, allK, 0⟩,
 ⟨43, .truth, 0, 0, false, 0, allK⟩,
 ⟨52, .num, 0, maxTime, true, allK, 0⟩,
 ⟨122, .num, 1, maxTime, false, 0, allK⟩,
 ⟨108, .num, 1, 3600, false, bits [7], 0⟩,
 ⟨141, .truth, 0, 0, false, 0, bits [7]⟩,
 ⟨112, .test, 0, 0, false, bits [2], bits [1]⟩,
 ⟨7, .num, 1, maxSeq, false, bits [3], 0⟩,
 ⟨16, .num, 0, maxSeq, true, bits [3], 0⟩,
 ⟨36, .num, 1, maxSeq, false, bits [5], 0⟩,
 ⟨123, .truth, 0, 0, false, 0, bits [5]⟩,
 ⟨45, .num, 1, maxSeq, false, bits [4, 16], 0⟩,
 ⟨372, .num, 1, 17, false, bits [16], bits [4]⟩,
 ⟨371, .num, 1, 9999, false, 0, bits [4]⟩,
 ⟨373, .num, 0, 999, true, bits [4, 16, 14], bits [13, 15]⟩,
 ⟨58, .text, 0, 0, false, 0, bits [5, 4, 6, 13, 14, 15, 16, 17]⟩,
 ⟨11, .id, 0, 0, false, bits [8, 9, 10, 12, 13, 11, 14, 15], 0⟩,
 ⟨41, .id, 0, 0, false, bits [9, 10, 14], bits [13]⟩,
 ⟨1, .name, 0, 0, false, bits [8, 13], bits [11]⟩,
 ⟨55, .symbol, 0, 0, false, bits [8, 9, 10, 12, 13, 17], bits [11, 15]⟩,
 ⟨54, .num, 1, 2, false, bits named, bits [11]⟩,
 ⟨40, .num, 1, 4, false, bits [8], bits [13]⟩,
 ⟨59, .num, 1, 7, false, bits [8], bits [13]⟩,
 ⟨44, .num, 1, maxPrice, false, 0, bits [8, 10, 13]⟩,
 ⟨99, .num, 1, maxPrice, false, 0, bits [8, 10, 13]⟩,
 ⟨38, .num, 1, maxQty, false, bits [8, 10, 13], 0⟩,
 ⟨111, .num, 1, maxQty, false, 0, bits [8, 13]⟩,
 ⟨110, .num, 1, maxQty, false, 0, bits [8]⟩,
 ⟨432, .date, 0, 0, false, 0, bits [8]⟩,
 ⟨37, .num, 0, maxSeq, true, bits [13, 14], 0⟩,
 ⟨17, .num, 1, maxSeq, false, bits [13], 0⟩,
 ⟨150, .num, 1, 8, false, bits [13], 0⟩,
 ⟨39, .num, 1, 6, false, bits [13, 14], 0⟩,
 ⟨31, .num, 1, maxPrice, false, 0, bits [13]⟩,
 ⟨32, .num, 1, maxQty, false, 0, bits [13]⟩,
 ⟨151, .num, 0, maxQty, true, bits [13], 0⟩,
 ⟨14, .num, 0, maxQty, true, bits [13], 0⟩,
 ⟨326, .num, 0, 5, true, bits [17], 0⟩,
 ⟨533, .num, 0, maxSeq, true, bits [15], 0⟩]
def What.ty : What → Ty
 | .num => .I
 | .date => .I
 | .truth => .B
 | _ => .S
def tys : List Ty := .I :: rows.map (·.what.ty)
def Cell.ok : Cell → Bool
 | .I n => decide (-9223372036854775808 ≤ n) && decide (n ≤ 9223372036854775807)
 | .S s => decide (s.length ≤ 140737488355328)
 | .B _ => true
def WT (m : Msg) : Prop := m.map Cell.ty = tys ∧ m.all Cell.ok = true
instance (m : Msg) : Decidable (WT m) := inferInstanceAs (Decidable (_ ∧ _))
def gi (m : Msg) (k : Nat) : Int := match m[k]? with | some (.I n) => n | _ => 0
def gs (m : Msg) (k : Nat) : List UInt8 := match m[k]? with | some (.S s) => s | _ => []
def gb (m : Msg) (k : Nat) : Bool := match m[k]? with | some (.B b) => b | _ => false
theorem WT.length {m : Msg} (h : WT m) : m.length = 42 := by
 have := congrArg List.length h.1; rw [List.length_map] at this; exact this
theorem WT.at {m : Msg} (h : WT m) (k : Nat) : (m[k]?).map Cell.ty = tys[k]? := by
 rw [← h.1]; simp
theorem WT.int {m : Msg} (h : WT m) {k : Nat} (hk : tys[k]? = some .I) : m[k]? = some (.I (gi m k)) := by
 have := h.at k; rw [hk] at this; unfold gi; cases hm : m[k]? with
 | none => simp [hm] at this
 | some c => cases c <;> simp [hm, Cell.ty] at this ⊢
theorem WT.str {m : Msg} (h : WT m) {k : Nat} (hk : tys[k]? = some .S) : m[k]? = some (.S (gs m k)) := by
 have := h.at k; rw [hk] at this; unfold gs; cases hm : m[k]? with
 | none => simp [hm] at this
 | some c => cases c <;> simp [hm, Cell.ty] at this ⊢
theorem WT.bool {m : Msg} (h : WT m) {k : Nat} (hk : tys[k]? = some .B) : m[k]? = some (.B (gb m k)) := by
 have := h.at k; rw [hk] at this; unfold gb; cases hm : m[k]? with
 | none => simp [hm] at this
 | some c => cases c <;> simp [hm, Cell.ty] at this ⊢
theorem WT.okAt {m : Msg} (h : WT m) {k : Nat} {c : Cell} (hk : m[k]? = some c) : c.ok = true :=
 List.all_eq_true.1 h.2 c (List.mem_of_getElem? hk)
theorem WT.gi_range {m : Msg} (h : WT m) {k : Nat} (hk : tys[k]? = some .I) : -9223372036854775808 ≤ gi m k ∧ gi m k ≤ 9223372036854775807 := by
 have := h.okAt (h.int hk); simpa [Cell.ok] using this
theorem WT.gs_len {m : Msg} (h : WT m) {k : Nat} (hk : tys[k]? = some .S) : (gs m k).length ≤ 140737488355328 := by
 have := h.okAt (h.str hk); simpa [Cell.ok] using this
def there (m : Msg) (k : Nat) : Bool := match m[k]? with
 | some (.I n) => n != 0
 | some (.S s) => !s.isEmpty
 | some (.B b) => b
 | none => false
def isGreat (c : UInt8) : Bool := 65 ≤ c && c ≤ 90
def isDigit (c : UInt8) : Bool := 48 ≤ c && c ≤ 57
def isSmall (c : UInt8) : Bool := 97 ≤ c && c ≤ 122
def nameSign (c : UInt8) : Bool := isGreat c || isDigit c
def idSign (c : UInt8) : Bool := isGreat c || isSmall c || isDigit c || c == 46 || c == 95 || c == 45
def textSign (c : UInt8) : Bool := 32 ≤ c && c ≤ 126 && c != 124
theorem textSign_iff (c : UInt8) : textSign c = true ↔ (32 ≤ (c.toNat : Int) ∧ (c.toNat : Int) ≤ 126) ∧ ((c.toNat : Int) == 124) = false := by
 have h1 : c ≠ 124 ↔ c.toNat ≠ 124 := by rw [ne_eq, ← UInt8.toNat_inj]; rfl
 unfold textSign; simp only [Bool.and_eq_true, decide_eq_true_eq, UInt8.le_iff_toNat_le, bne_iff_ne, h1, beq_eq_false_iff_ne]; simp
 omega
theorem not_textSign {c : UInt8} (h : ¬ textSign c = true) : (c.toNat : Int) < 32 ∨ 126 < (c.toNat : Int) ∨ (32 ≤ (c.toNat : Int) ∧ (c.toNat : Int) ≤ 126 ∧ ((c.toNat : Int) == 124) = true) := by
 rw [textSign_iff] at h; simp only [beq_eq_false_iff_ne, beq_iff_eq] at *; omega
theorem all_take_succ {p : UInt8 → Bool} {s : List UInt8} {k : Nat} (h : k < s.length) (h1 : (s.take k).all p = true) (h2 : p s[k] = true) : (s.take (k + 1)).all p = true := by
 rw [List.take_succ_eq_append_getElem h, List.all_append, h1]; simp [h2]
theorem all_false {p : UInt8 → Bool} {s : List UInt8} {k : Nat} (h : k < s.length) (h2 : ¬ p s[k] = true) : s.all p = false := by
 rw [List.all_eq_false]; exact ⟨s[k], by simp, h2⟩
def isName (s : List UInt8) : Bool := decide (1 ≤ s.length) && decide (s.length ≤ 12) && s.all nameSign
def isID (s : List UInt8) : Bool := decide (1 ≤ s.length) && decide (s.length ≤ 20) && s.all idSign
def isSymbol (s : List UInt8) : Bool := decide (1 ≤ s.length) && decide (s.length ≤ 8) && s.all nameSign && isGreat (s.headD 0)
def isText (s : List UInt8) : Bool := decide (s.length ≤ 60) && s.all textSign
def isTest (s : List UInt8) : Bool := decide (s.length ≤ 20) && isText s
def leap (y : Int) : Bool := y % 4 == 0 && (y % 100 != 0 || y % 400 == 0)
def monthAt (k : Int) : Int := [0, 31, 59, 90, 120, 151, 181, 212, 243, 273, 304, 334, 365].getD k.toNat 0
def aheadM (y m : Int) : Int := monthAt (m - 1) + if 2 < m ∧ leap y = true then 1 else 0
def aheadY (y : Int) : Int := 365 * (y - 1970) + ((y - 1) / 4 - (y - 1) / 100 + (y - 1) / 400 - 477)
def dayOf (date : Int) : Option Int :=
 let y := date / 10000
 let m := date / 100 % 100
 let d := date % 100
 if date < 0 ∨ y < 1970 ∨ 9999 < y ∨ m < 1 ∨ 12 < m ∨ d < 1 ∨ aheadM y (m + 1) - aheadM y m < d then none
 else some (aheadY y + aheadM y m + d - 1)
theorem monthAt_range (k : Int) (h0 : 0 ≤ k) (h1 : k ≤ 12) : 0 ≤ monthAt k ∧ monthAt k ≤ 365 := by
 have hc : k = 0 ∨ k = 1 ∨ k = 2 ∨ k = 3 ∨ k = 4 ∨ k = 5 ∨ k = 6 ∨ k = 7 ∨ k = 8 ∨ k = 9 ∨ k = 10 ∨ k = 11 ∨ k = 12 := by omega
 rcases hc with rfl | rfl | rfl | rfl | rfl | rfl | rfl | rfl | rfl | rfl | rfl | rfl | rfl <;> decide
theorem aheadM_range (y m : Int) (h0 : 1 ≤ m) (h1 : m ≤ 13) : 0 ≤ aheadM y m ∧ aheadM y m ≤ 366 := by
 have := monthAt_range (m - 1) (by omega) (by omega); unfold aheadM; split <;> omega
theorem aheadY_range (y : Int) (h0 : 1970 ≤ y) (h1 : y ≤ 10000) : 0 ≤ aheadY y ∧ aheadY y ≤ 2932897 := by
 unfold aheadY; omega
def fine (m : Msg) (k : Nat) (r : Row) : Bool := match r.what with
 | .num => decide (r.lo ≤ gi m k) && decide (gi m k ≤ r.hi)
 | .truth => gb m k
 | .name => isName (gs m k)
 | .id => isID (gs m k)
 | .symbol => isSymbol (gs m k)
 | .text => isText (gs m k)
 | .test => isTest (gs m k)
 | .date => (dayOf (gi m k)).isSome
def isKind (kind : Int) : Bool := decide (1 ≤ kind) && decide (kind ≤ 17)
def inSet (s : Nat) (kind : Int) : Bool := isKind kind && s.testBit kind.toNat
def rowFault (m : Msg) (k : Nat) (r : Row) : Option (Int × Int) :=
 let must := inSet r.must (gi m 0)
 let may := inSet r.may (gi m 0)
 let is := there m k
 if is && !must && !may then some (32, r.num)
 else if is && !fine m k r || !is && must && !r.zero then some (31, r.num)
 else none
def rowsFault (m : Msg) : Nat → List Row → Option (Int × Int)
 | _, [] => none
 | k, r :: l => match rowFault m k r with
  | some e => some e
  | none => rowsFault m (k + 1) l
def fitsList (m : Msg) : List (Bool × Int) :=
 let priced := gi m 24 == 1 || gi m 24 == 4
 let stops := gi m 24 == 3 || gi m 24 == 4
 let trade := gi m 34 == 3
 let new := gi m 0 == 8
 let exec := gi m 0 == 13
 [(gi m 6 != 0 && !gb m 4, 122),
  (gi m 0 == 3 && gi m 11 != 0 && decide (gi m 11 < gi m 10), 16),
  (new && (priced != (gi m 26 != 0)), 44),
  (new && (stops != (gi m 27 != 0)), 99),
  (new && decide (gi m 28 < gi m 29), 111),
  (new && decide (gi m 28 < gi m 30), 110),
  (new && ((gi m 25 == 5) != (gi m 31 != 0)), 432),
  (exec && (trade != (gi m 36 != 0)), 31),
  (exec && (trade != (gi m 37 != 0)), 32),
  (exec && decide (gi m 28 < gi m 38 + gi m 39), 14)]
def fitsNum (m : Msg) : Int := match (fitsList m).find? (·.1) with
 | some x => x.2
 | none => 0
def valid (m : Msg) : Int × Int :=
 if !isKind (gi m 0) then (30, 35)
 else match rowsFault m 1 rows with
  | some e => e
  | none => if fitsNum m != 0 then (31, fitsNum m) else (0, 0)
def hasIn (kind n : Int) : List Row → Int
 | [] => 0
 | r :: l => if r.num != n then hasIn kind n l else if inSet r.must kind then 2 else if inSet r.may kind then 1 else hasIn kind n l
def has (kind n : Int) : Int := if n == 35 && isKind kind then 2 else hasIn kind n rows
end
section
open Go
def natOf (s : List UInt8) : Nat := s.foldl (fun a c => a * 10 + (c.toNat - 48)) 0
def natFrom (a : Nat) (s : List UInt8) : Nat := s.foldl (fun a c => a * 10 + (c.toNat - 48)) a
theorem natFrom_append (a : Nat) (s t : List UInt8) : natFrom a (s ++ t) = natFrom (natFrom a s) t := List.foldl_append ..
theorem natOf_append (s t : List UInt8) : natOf (s ++ t) = natFrom (natOf s) t := List.foldl_append ..
theorem natFrom_ge (a : Nat) : ∀ (s : List UInt8), a ≤ natFrom a s
 | [] => Nat.le_refl _
 | c :: s => by
  have := natFrom_ge (a * 10 + (c.toNat - 48)) s; show a ≤ natFrom (a * 10 + (c.toNat - 48)) s
  omega
def numeral (s : List UInt8) : Bool := !s.isEmpty && !(decide (1 < s.length) && s.headD 0 == 48) && s.all isDigit
def greatest : Nat := 9223372036854775807
def parseUint (s : List UInt8) (most : Int) : Int × Int :=
 if !numeral s then (0, 10) else if greatest < natOf s ∨ most < natOf s then (0, 11) else (natOf s, 0)
theorem isDigit_iff (c : UInt8) : isDigit c = true ↔ 48 ≤ c.toNat ∧ c.toNat ≤ 57 := by
 unfold isDigit; simp [UInt8.le_iff_toNat_le]
theorem parseUintM_digits (M : Nat) : ∀ (s : List UInt8) (acc : Nat), M = 18446744073709551615 → acc ≤ M → s.all isDigit = true →
 Lib.parseUintM M acc s = if natFrom acc s ≤ M then .ok (natFrom acc s) else .range
 | [], acc, hM, ha, _ => by simp [Lib.parseUintM, natFrom, ha]
 | c :: r, acc, hM, ha, hd => by
  simp only [List.all_cons, Bool.and_eq_true] at hd; have hc := (isDigit_iff c).1 hd.1; have hf : natFrom acc (c :: r) = natFrom (acc * 10 + (c.toNat - 48)) r := rfl; have hge := natFrom_ge (acc * 10 + (c.toNat - 48)) r; unfold Lib.parseUintM; rw [if_pos hc, hf]; by_cases h1 : 1844674407370955162 ≤ acc
  · rw [if_pos h1, if_neg (by omega)]
  · rw [if_neg h1]; by_cases h2 : M < acc * 10 + (c.toNat - 48)
    · rw [if_pos h2, if_neg (by omega)]
    · rw [if_neg h2]; exact parseUintM_digits M r _ hM (by omega) hd.2
theorem parseIntB_digits (s : List UInt8) (h0 : s ≠ []) (hd : s.all isDigit = true) :
 Lib.parseIntB 64 s = if natOf s ≤ greatest then .ok (natOf s : Int) else .range := by
 cases s with
 | nil => exact absurd rfl h0
 | cons c r =>
  have hc := (isDigit_iff c).1 (by simp only [List.all_cons, Bool.and_eq_true] at hd; exact hd.1); unfold Lib.parseIntB; have h1 : ¬ (c.toNat = 43 ∨ c.toNat = 45) := by omega
  have h2 : ¬ (c.toNat = 45) := by omega
  have hM := parseUintM_digits (2 ^ 64 - 1) (c :: r) 0 (by decide) (by decide) hd; have hn : natFrom 0 (c :: r) = natOf (c :: r) := rfl; rw [hn] at hM; simp only [if_neg h1, Lib.parseUintB, List.cons_ne_nil, if_false, hM, reduceCtorEq]; by_cases hle : natOf (c :: r) ≤ 2 ^ 64 - 1
  · rw [if_pos hle]; simp only [h2, not_false_eq_true, true_and, false_and, if_false]; by_cases hg : natOf (c :: r) ≤ greatest
    · rw [if_pos hg, if_neg (by unfold greatest at hg; omega)]
    · rw [if_neg hg, if_pos (by unfold greatest at hg; omega)]
  · rw [if_neg hle, if_neg (by unfold greatest; omega)]
theorem numeral_digits {s : List UInt8} (h : numeral s = true) : s ≠ [] ∧ s.all isDigit = true := by
 unfold numeral at h; simp only [Bool.and_eq_true] at h; refine ⟨fun e => ?_, h.2⟩; subst e; simp at h
theorem natFrom_lt (s : List UInt8) (hd : s.all isDigit = true) : ∀ (a : Nat), natFrom a s < (a + 1) * 10 ^ s.length := by
 induction s with
 | nil => intro a; simp [natFrom]
 | cons c s ih =>
  intro a; simp only [List.all_cons, Bool.and_eq_true] at hd; have hc := (isDigit_iff c).1 hd.1; have h1 := ih hd.2 (a * 10 + (c.toNat - 48)); have h2 : (a * 10 + (c.toNat - 48) + 1) * 10 ^ s.length ≤ ((a + 1) * 10) * 10 ^ s.length := Nat.mul_le_mul_right _ (by omega); have h3 : (a + 1) * 10 ^ (s.length + 1) = ((a + 1) * 10) * 10 ^ s.length := by rw [Nat.pow_succ]; ac_rfl
  show natFrom (a * 10 + (c.toNat - 48)) s < (a + 1) * 10 ^ (s.length + 1)
  omega
theorem natOf_lt {s : List UInt8} (hd : s.all isDigit = true) : natOf s < 10 ^ s.length := by
 have := natFrom_lt s hd 0; show natFrom 0 s < _
 simpa using this
def sumOf (s : List UInt8) : Nat := (s.foldl (fun a c => a + c.toNat) 0) % 256
def addUp (a : Nat) (s : List UInt8) : Nat := s.foldl (fun a c => a + c.toNat) a
theorem addUp_succ {s : List UInt8} {k : Nat} (h : k < s.length) : addUp 0 (s.take (k + 1)) = addUp 0 (s.take k) + (s[k]).toNat := by
 unfold addUp; rw [List.take_succ_eq_append_getElem h, List.foldl_append]; rfl
theorem sumOf_eq (s : List UInt8) : sumOf s = addUp 0 s % 256 := rfl
end
section
open Go
abbrev Fld := Int × List UInt8
def shown (c : UInt8) : Bool := 32 ≤ c && c ≤ 126
theorem shown_iff (c : UInt8) : shown c = true ↔ (32 ≤ (c.toNat : Int) ∧ (c.toNat : Int) ≤ 126) := by
 unfold shown; simp only [Bool.and_eq_true, decide_eq_true_eq, UInt8.le_iff_toNat_le]; simp
 omega
def valued (s : List UInt8) : Bool := s.all shown && !s.isEmpty
def tagBad (t : Int) : Bool := decide (t < 1) || decide (9999 < t) || (decide (8 ≤ t) && decide (t ≤ 10))
def piece (f : Fld) : List UInt8 := (Lib.itoa f.1 ++ [61]) ++ f.2 ++ [1]
def bodyOf (b : List UInt8) : List Fld → List UInt8
 | [] => b
 | f :: l => bodyOf (if b.length ≤ 1024 then b ++ piece f else b) l
def headOf : List UInt8 := [56, 61, 70, 73, 88, 46, 52, 46, 52, 1, 57, 61]
def framed (body : List UInt8) : List UInt8 :=
 let out := headOf ++ Lib.itoa body.length ++ [1] ++ body
 out ++ ([49, 48, 61] ++ (Lib.itoa (1000 + sumOf out)).drop 1 ++ [1])
def join (l : List Fld) : List UInt8 × Int :=
 if l.any (fun f => tagBad f.1) then ([], 41)
 else if !l.all (fun f => valued f.2) then ([], 42)
 else if 1024 < (framed (bodyOf [] l)).length then ([], 43)
 else (framed (bodyOf [] l), 0)
theorem all_take_succ' {α : Type} {p : α → Bool} {s : List α} {k : Nat} (h : k < s.length) (h1 : (s.take k).all p = true) (h2 : p s[k] = true) : (s.take (k + 1)).all p = true := by
 rw [List.take_succ_eq_append_getElem h, List.all_append, h1]; simp [h2]
theorem any_take_succ {α : Type} {p : α → Bool} {s : List α} {k : Nat} (h : k < s.length) (h1 : (s.take k).any p = false) (h2 : p s[k] = false) : (s.take (k + 1)).any p = false := by
 rw [List.take_succ_eq_append_getElem h, List.any_append, h1]; simp [h2]
theorem any_true {α : Type} {p : α → Bool} {s : List α} {k : Nat} (h : k < s.length) (h2 : p s[k] = true) : s.any p = true := by
 rw [List.any_eq_true]; exact ⟨s[k], by simp, h2⟩
theorem all_false' {α : Type} {p : α → Bool} {s : List α} {k : Nat} (h : k < s.length) (h2 : p s[k] = false) : s.all p = false := by
 rw [List.all_eq_false]; exact ⟨s[k], by simp, by simp [h2]⟩
theorem bodyOf_take {l : List Fld} {k : Nat} (h : k < l.length) (b : List UInt8) : bodyOf b (l.take (k + 1)) = if (bodyOf b (l.take k)).length ≤ 1024 then bodyOf b (l.take k) ++ piece l[k] else bodyOf b (l.take k) := by
 induction l generalizing k b with
 | nil => simp at h
 | cons f l ih =>
  cases k with
  | zero => rfl
  | succ k =>
   simp only [List.take_succ_cons, List.getElem_cons_succ]; exact ih (by simpa using h) _
end
section
open Go
def digitsAt (s : List UInt8) (k : Nat) : Nat := ((s.drop k).takeWhile isDigit).length
def misses (c : Option UInt8) (t : UInt8) : Bool := match c with
 | none => true
 | some c => if t == 35 then !isDigit c else c != t
def differs (s : List UInt8) (k : Nat) : List UInt8 → Int
 | [] => -1
 | t :: ts => if misses s[k]? t then ((min k s.length : Nat) : Int) else differs s (k + 1) ts
def lastOf : List UInt8 := [49, 48, 61, 35, 35, 35, 1]
def headTells (s : List UInt8) : (Nat × Nat) ⊕ (Int × Int) :=
 let k := differs s 0 headOf
 if 0 ≤ k then .inr (k, 40)
 else
  let n := digitsAt s 12
  if 1 < n ∧ s[12]? = some 48 then .inr (13, 40)
  else if 4 < n then .inr (16, 40)
  else if n = 0 ∨ 12 + n = s.length ∨ s[12 + n]? ≠ some 1 then .inr (((12 + n : Nat) : Int), 40)
  else .inl (natOf ((s.drop 12).take n), 12 + n + 1)
def toldSum (s : List UInt8) : Nat := natOf ((s.drop (s.length - 7 + 3)).take 3)
def endsTell (s : List UInt8) : Option (Int × Int) :=
 let k := differs s (s.length - 7) lastOf
 if 0 ≤ k then some (k, 40)
 else if toldSum s ≠ sumOf (s.take (s.length - 7)) then some (((s.length - 7 + 3 : Nat) : Int), 44)
 else none
def tagTell (t : List UInt8) : Int × Bool :=
 let r := parseUint t 9999
 (r.1, r.2 == 0 && decide (1 ≤ r.1) && r.1 != 8 && r.1 != 9 && r.1 != 10)
def fieldTell (s : List UInt8) (k stop : Nat) : (Fld × Nat) ⊕ (Int × Int) :=
 let n := digitsAt (s.take stop) k
 let t := tagTell ((s.drop k).take n)
 if t.2 = false ∨ k + n = stop ∨ s[k + n]? ≠ some 61 then .inr ((k : Int), 41)
 else
  let f := k + n + 1
  let m := (((s.take stop).drop f).takeWhile shown).length
  if f + m = stop ∨ m = 0 ∨ s[f + m]? ≠ some 1 then .inr (((f + m : Nat) : Int), 42)
  else .inl ((t.1, (s.drop f).take m), f + m + 1)
def fieldsTell (s : List UInt8) (stop : Nat) : Nat → Nat → List Fld → List Fld ⊕ (Int × Int)
 | 0, _, l => .inl l
 | fuel + 1, k, l => if stop ≤ k then .inl l else match fieldTell s k stop with
  | .inr e => .inr e
  | .inl (f, k') => fieldsTell s stop fuel k' (l ++ [f])
def split (s : List UInt8) : List Fld ⊕ (Int × Int) :=
 if 1024 < s.length then .inr (1024, 43)
 else match headTells s with
  | .inr e => .inr e
  | .inl (n, k) => if s.length ≠ k + n + 7 then .inr (12, 43)
   else match endsTell s with
    | some e => .inr e
    | none => fieldsTell s (k + n) (s.length + 1) k []
theorem digitsAt_step {s : List UInt8} {k : Nat} (h : k < s.length) (hd : isDigit s[k] = true) : digitsAt s k = digitsAt s (k + 1) + 1 := by
 unfold digitsAt; rw [List.drop_eq_getElem_cons h, List.takeWhile_cons, if_pos hd]; simp
theorem digitsAt_stop {s : List UInt8} {k : Nat} (h : ∀ h : k < s.length, isDigit s[k] = false) : digitsAt s k = 0 := by
 unfold digitsAt; by_cases hk : k < s.length
 · rw [List.drop_eq_getElem_cons hk, List.takeWhile_cons, if_neg (by simp [h hk])]; rfl
 · rw [List.drop_eq_nil_of_le (by omega)]; rfl
theorem digitsAt_le (s : List UInt8) (k : Nat) : digitsAt s k ≤ s.length - k := by
 unfold digitsAt; have := (List.takeWhile_prefix isDigit (l := s.drop k)).length_le; simpa using this
theorem differs_miss {s : List UInt8} {k : Nat} {t : UInt8} {ts : List UInt8} (h : misses s[k]? t = true) : differs s k (t :: ts) = ((min k s.length : Nat) : Int) := by simp [differs, h]
theorem differs_hit {s : List UInt8} {k : Nat} {t : UInt8} {ts : List UInt8} (h : misses s[k]? t = false) : differs s k (t :: ts) = differs s (k + 1) ts := by simp [differs, h]
theorem digits_piece (s : List UInt8) (k : Nat) : ((s.drop k).take (digitsAt s k)).all isDigit = true ∧ ((s.drop k).take (digitsAt s k)).length = digitsAt s k := by
 have h : (s.drop k).take (digitsAt s k) = (s.drop k).takeWhile isDigit := by
  unfold digitsAt; exact (List.prefix_iff_eq_take.1 (List.takeWhile_prefix isDigit)).symm
 rw [h]; exact ⟨List.all_takeWhile, rfl⟩
theorem head_number {s : List UInt8} {k n : Nat} (hn : digitsAt s k = n) (h0 : n ≠ 0) (h4 : ¬ 4 < n) (hz : ¬ (1 < n ∧ s[k]? = some 48)) : parseUint ((s.drop k).take n) 9999 = ((natOf ((s.drop k).take n) : Int), 0) ∧ natOf ((s.drop k).take n) ≤ 9999 := by
 obtain ⟨hd, hl⟩ := digits_piece s k; rw [hn] at hd hl; have hlt := natOf_lt hd; rw [hl] at hlt; have hle : natOf ((s.drop k).take n) ≤ 9999 := by
  have : 10 ^ n ≤ 10 ^ 4 := Nat.pow_le_pow_right (by omega) (by omega); omega
 have hnum : numeral ((s.drop k).take n) = true := by
  unfold numeral; rw [hd]; have h1 : ((s.drop k).take n).isEmpty = false := by
   cases h : (s.drop k).take n with
   | nil => rw [h] at hl; simp at hl; omega
   | cons c r => rfl
  have hh : ((s.drop k).take n).headD 0 = (s[k]?).getD 0 := by
   rw [List.headD_eq_head?_getD, List.head?_take, List.head?_drop, if_neg h0]
  rw [h1, hl, hh]; by_cases h2 : 1 < n
  · have : ¬ s[k]? = some 48 := fun e => hz ⟨h2, e⟩
    have hk : k < s.length := by
     have := digitsAt_le s k; omega
    rw [List.getElem?_eq_getElem hk] at this ⊢; simp only [Option.some.injEq] at this; simp [this]
  · simp [h2]
 refine ⟨?_, hle⟩; unfold parseUint; rw [hnum]; simp only [Bool.not_true, Bool.false_eq_true, if_false]; rw [if_neg (by unfold greatest; omega)]
end
section
open Go
def yearFrom (n : Int) : Nat → Int → Int
 | 0, y => y
 | f + 1, y => if aheadY (y + 1) ≤ n then yearFrom n f (y + 1) else y
def monthFrom (y n : Int) : Nat → Int → Int
 | 0, m => m
 | f + 1, m => if aheadM y (m + 1) ≤ n then monthFrom y n f (m + 1) else m
def dateOf (n : Int) : Int :=
 let y := yearFrom n 8030 (1970 + n / 366)
 let r := n - aheadY y
 let m := monthFrom y r 12 1
 10000 * y + 100 * m + r - aheadM y m + 1
def inDigits (n : Nat) : Nat → List UInt8
 | 0 => []
 | k + 1 => inDigits (n / 10) k ++ [UInt8.ofNat (48 + n % 10)]
def dayMs : Int := 86400000
def stampOf (ms : Int) : List UInt8 :=
 let left := (ms % dayMs).toNat
 inDigits (dateOf (ms / dayMs)).toNat 8 ++ [45] ++ inDigits (left / 3600000) 2 ++ [58] ++ inDigits (left / 60000 % 60) 2 ++ [58] ++ inDigits (left / 1000 % 60) 2 ++ [46] ++ inDigits (left % 1000) 3
theorem yearFrom_spec (n : Int) (h1 : n ≤ 2932896) : ∀ (f : Nat) (y : Int), 1970 ≤ y → y ≤ 9999 → aheadY y ≤ n → 9999 - y ≤ f → ∃ Y, yearFrom n f y = Y ∧ y ≤ Y ∧ Y ≤ 9999 ∧ aheadY Y ≤ n ∧ n < aheadY (Y + 1)
 | 0, y, h0, h2, h3, h4 => by
  have hy : y = 9999 := by omega
  subst hy; refine ⟨9999, rfl, by omega, by omega, h3, ?_⟩; have : aheadY (9999 + 1) = 2932897 := by decide
  omega
 | f + 1, y, h0, h2, h3, h4 => by
  unfold yearFrom; by_cases h : aheadY (y + 1) ≤ n
  · rw [if_pos h]; have hy : y + 1 ≤ 9999 := by
     by_cases hy : y = 9999
     · subst hy; have : aheadY (9999 + 1) = 2932897 := by decide
       omega
     · omega
    obtain ⟨Y, e, h5, h6, h7, h8⟩ := yearFrom_spec n h1 f (y + 1) (by omega) hy h (by omega); exact ⟨Y, e, by omega, h6, h7, h8⟩
  · rw [if_neg h]; exact ⟨y, rfl, by omega, h2, h3, by omega⟩
theorem aheadY_start (n : Int) (h0 : 0 ≤ n) (h1 : n ≤ 2932896) : aheadY (1970 + n / 366) ≤ n ∧ 1970 + n / 366 ≤ 9999 := by
 unfold aheadY; omega
theorem leap_iff (y : Int) : leap y = true ↔ y % 4 = 0 ∧ (y % 100 ≠ 0 ∨ y % 400 = 0) := by
 unfold leap; simp
theorem aheadM_13 (y : Int) : aheadM y 13 = aheadY (y + 1) - aheadY y := by
 unfold aheadM aheadY; have h : monthAt (13 - 1) = 365 := by decide
 rw [h]; by_cases hl : leap y = true
 · rw [if_pos ⟨by decide, hl⟩]; rw [leap_iff] at hl; omega
 · rw [if_neg (fun h => hl h.2)]; rw [leap_iff] at hl; omega
theorem aheadM_1 (y : Int) : aheadM y 1 = 0 := by
 unfold aheadM; rw [if_neg (by omega)]; decide
theorem aheadM_len (y m : Int) (h0 : 1 ≤ m) (h1 : m ≤ 12) : aheadM y (m + 1) - aheadM y m ≤ 31 := by
 have hc : m = 1 ∨ m = 2 ∨ m = 3 ∨ m = 4 ∨ m = 5 ∨ m = 6 ∨ m = 7 ∨ m = 8 ∨ m = 9 ∨ m = 10 ∨ m = 11 ∨ m = 12 := by omega
 unfold aheadM; cases leap y <;> rcases hc with rfl | rfl | rfl | rfl | rfl | rfl | rfl | rfl | rfl | rfl | rfl | rfl <;> decide
theorem monthFrom_spec (y n : Int) (h1 : n < aheadM y 13) : ∀ (f : Nat) (m : Int), 1 ≤ m → m ≤ 12 → aheadM y m ≤ n → 12 - m ≤ f → ∃ M, monthFrom y n f m = M ∧ m ≤ M ∧ M ≤ 12 ∧ aheadM y M ≤ n ∧ n < aheadM y (M + 1)
 | 0, m, h0, h2, h3, h4 => by
  have hy : m = 12 := by omega
  subst hy; exact ⟨12, rfl, by omega, by omega, h3, h1⟩
 | f + 1, m, h0, h2, h3, h4 => by
  unfold monthFrom; by_cases h : aheadM y (m + 1) ≤ n
  · rw [if_pos h]; have hy : m + 1 ≤ 12 := by
     by_cases hy : m = 12
     · subst hy; have e : (12 : Int) + 1 = 13 := rfl; rw [e] at h; omega
     · omega
    obtain ⟨Y, e, h5, h6, h7, h8⟩ := monthFrom_spec y n h1 f (m + 1) (by omega) hy h (by omega); exact ⟨Y, e, by omega, h6, h7, h8⟩
  · rw [if_neg h]; exact ⟨m, rfl, by omega, h2, h3, by omega⟩
theorem dayOf_dateOf (n : Int) (h0 : 0 ≤ n) (h1 : n ≤ 2932896) : dayOf (dateOf n) = some n ∧ 19700101 ≤ dateOf n ∧ dateOf n ≤ 99991231 := by
 obtain ⟨hs, hs2⟩ := aheadY_start n h0 h1; obtain ⟨y, e, h2, h3, h4, h5⟩ := yearFrom_spec n h1 8030 (1970 + n / 366) (by omega) hs2 hs (by omega); have h13 := aheadM_13 y; obtain ⟨m, em, h6, h7, h8, h9⟩ := monthFrom_spec y (n - aheadY y) (by omega) 12 1 (by omega) (by omega) (by rw [aheadM_1]; omega) (by omega); have hl := aheadM_len y m h6 h7; unfold dateOf; simp only [e, em]; generalize hA : aheadM y m = a at *; generalize hB : aheadM y (m + 1) = b at *; have hy : (10000 * y + 100 * m + (n - aheadY y) - a + 1) / 10000 = y := by omega
 have hm : (10000 * y + 100 * m + (n - aheadY y) - a + 1) / 100 % 100 = m := by omega
 have hd : (10000 * y + 100 * m + (n - aheadY y) - a + 1) % 100 = n - aheadY y - a + 1 := by omega
 refine ⟨?_, by omega, by omega⟩; unfold dayOf; simp only [hy, hm, hd, hA, hB]; rw [if_neg (by omega)]; congr 1
 omega
end
section
open Go
def readOf (s : List UInt8) : Int := if s.all isDigit then natOf s else -1
def zeroMs : List UInt8 := [46, 48, 48, 48]
def longStamp (s : List UInt8) : List UInt8 := if s.length = 17 then s ++ zeroMs else s
def marked (s : List UInt8) : Bool := s.length == 21 && s[8]? == some 45 && s[11]? == some 58 && s[14]? == some 58 && s[17]? == some 46
def within (x top : Int) : Bool := decide (0 ≤ x) && decide (x ≤ top)
def parseStamp (s0 : List UInt8) : Int × Int :=
 let s := longStamp s0
 if !marked s then (0, 20)
 else
  let h := readOf ((s.drop 9).take 2)
  let m := readOf ((s.drop 12).take 2)
  let c := readOf ((s.drop 15).take 2)
  let x := readOf (s.drop 18)
  match dayOf (readOf (s.take 8)) with
  | none => (0, 20)
  | some n => if within h 23 && within m 59 && within c 59 && within x 999 then (n * 86400000 + (h * 3600000 + m * 60000 + c * 1000 + x), 0) else (0, 20)
end
section
open Go
def parsePrice (s : List UInt8) : Int × Int :=
 let whole := s.takeWhile (· != 46)
 let rest := (s.dropWhile (· != 46)).drop 1
 let point := s.contains 46
 if !numeral whole || (point && (rest.isEmpty || decide (4 < rest.length) || !numeral (49 :: rest))) then (0, 10)
 else if greatest < natOf whole ∨ 100000 < natOf whole then (0, 11)
 else
  let n : Int := natOf whole * 10000 + natOf (49 :: rest ++ ([48, 48, 48, 48] : List UInt8).drop rest.length) - 10000
  if 1000000000 < n then (0, 11) else (n, 0)
def trimNoughts (s : List UInt8) : List UInt8 := (s.reverse.dropWhile (· == 48)).reverse
def priceOf (p : Int) : List UInt8 :=
 Lib.itoa (p / 10000) ++ if p % 10000 = 0 then [] else 46 :: trimNoughts ((Lib.itoa (10000 + p % 10000)).drop 1)
end
section
open Go
inductive Form where
 | numeral (lo hi : Int)
 | coded (first : Int) (words : List (List UInt8))
 | priced
 | timed (least : Int)
 | text (p : What)
 | flag
 | date
 | ordered
 deriving DecidableEq
def typesL : List (List UInt8) := [[48], [49], [50], [51], [52], [53], [65], [68], [70], [71], [113], [72], [56], [57], [114], [106], [102]]
def forms : List Form := [
 .coded 1 typesL, .text .name, .text .name, .numeral 1 maxSeq, .flag, .timed 0, .timed 1, .numeral 1 3600, .flag, .text .test,
 .numeral 1 maxSeq, .numeral 0 maxSeq, .numeral 1 maxSeq, .flag, .numeral 1 maxSeq, .coded 1 typesL, .numeral 1 9999, .numeral 0 999, .text .text,
 .text .id, .text .id, .text .name, .text .symbol, .coded 1 [[49], [50]], .coded 1 [[50], [49], [51], [52]],
 .coded 1 [[48], [51], [52], [49], [54], [50]], .priced, .priced, .numeral 1 maxQty, .numeral 1 maxQty, .numeral 1 maxQty, .date, .ordered,
 .numeral 1 maxSeq, .coded 1 [[48], [56], [70], [52], [53], [76], [67], [73]], .coded 1 [[48], [49], [50], [52], [56], [67]], .priced, .numeral 1 maxQty,
 .numeral 0 maxQty, .numeral 0 maxQty, .coded 0 [[49, 56], [50, 49], [50, 50], [49, 55], [50], [50, 54]], .numeral 0 maxSeq]
def mayText (p : What) (s : List UInt8) : Bool := match p with
 | .name => isName s
 | .id => isID s
 | .symbol => isSymbol s
 | .text => isText s
 | .test => isTest s
 | _ => false
def noneL : List UInt8 := [78, 79, 78, 69]
def wordAt (words : List (List UInt8)) (s : List UInt8) : Option Nat := words.findIdx? (· == s)
def Form.printN (f : Form) (n : Int) : List UInt8 := match f with
 | .coded first words => words.getD (n - first).toNat []
 | .priced => priceOf n
 | .timed _ => stampOf n
 | .ordered => if n == 0 then noneL else Lib.itoa n
 | _ => Lib.itoa n
def Form.printable (f : Form) (n : Int) : Bool := match f with
 | .coded first words => decide (first ≤ n) && decide (n < first + words.length)
 | .priced => decide (0 ≤ n) && decide (n ≤ maxPrice)
 | .timed _ => decide (0 ≤ n) && decide (n ≤ maxTime)
 | _ => true
def above (least : Int) (r : Int × Int) : Option Int := if r.2 == 0 && decide (least ≤ r.1) then some r.1 else none
def dateIn (s : List UInt8) (r : Int × Int) : Option Int := if r.2 == 0 && s.length == 8 && (dayOf r.1).isSome then some r.1 else none
def Form.readN (f : Form) (s : List UInt8) : Option Int := match f with
 | .numeral lo hi => above lo (parseUint s hi)
 | .coded first words => (wordAt words s).map fun (i : Nat) => (i : Int) + first
 | .priced => above 1 (parsePrice s)
 | .timed least => above least (parseStamp s)
 | .date => dateIn s (parseUint s 99991231)
 | .ordered => if s == noneL then some 0 else above 1 (parseUint s maxSeq)
 | _ => none
def Form.ty : Form → Ty
 | .text _ => .S
 | .flag => .B
 | _ => .I
def Form.print (f : Form) (c : Cell) : List UInt8 := match c with
 | .I n => f.printN n
 | .S s => s
 | .B _ => [89]
def Form.may (f : Form) (c : Cell) : Bool := match c with
 | .I n => f.printable n
 | _ => true
def Form.read (f : Form) (s : List UInt8) : Option Cell := match f with
 | .text p => if s.isEmpty || !mayText p s then none else some (.S s)
 | .flag => if s == [89] then some (.B true) else if s == [78] then some (.B false) else none
 | f => (f.readN s).map .I
structure Slot where
 tag : Int
 num : Int
 must : Bool
 deriving DecidableEq
def numbered : List Int := 35 :: rows.map (·.num)
def cellOf (num : Int) : Nat := numbered.idxOf num
def reasonTag (kind : Int) : Int := if kind == 4 then 373 else if kind == 16 then 380 else if kind == 14 then 102 else if kind == 13 then 103 else if kind == 15 then 532 else 0
def orders (kind : Int) : Bool := kind == 8 || kind == 13
def hasScope (kind : Int) : Bool := kind == 11 || kind == 15
def slotsAt (kind n : Int) : List Slot :=
 (if n == 108 && kind == 7 then [⟨98, 0, true⟩] else []) ++
 (if 0 < has kind n then [⟨if n == 373 then reasonTag kind else n, n, has kind n == 2⟩] else []) ++
 (if n == 59 && orders kind then [⟨18, 0, false⟩] else [])
def slotsOf (kind : Int) : List Slot := numbered.flatMap (slotsAt kind) ++ if hasScope kind then [⟨530, 0, true⟩] else []
def findSlot (l : List Slot) (tag : Int) : Option Slot := l.find? fun s => s.tag == tag
def knownTag (tag : Int) : Bool := (List.range 17).any fun k => (findSlot (slotsOf (k + 1)) tag).isSome
def scopeOf (m : Msg) : List UInt8 := if (gs m 22).isEmpty then [55] else [49]
def formAt (num : Int) : Form := forms.getD (cellOf num) .flag
def written (s : Slot) (m : Msg) : List UInt8 :=
 if s.tag == 98 then [48]
 else if s.tag == 18 then if gi m 25 == 7 then [54] else []
 else if s.tag == 530 then scopeOf m
 else if s.num == 59 && gi m 25 == 7 then [48]
 else if !s.must && !there m (cellOf s.num) then []
 else (formAt s.num).print (cellAt' m (cellOf s.num))
where cellAt' (m : Msg) (k : Nat) : Cell := m.getD k (.B false)
def fieldAt (m : Msg) (s : Slot) : Option Fld := if (written s m).isEmpty then none else some (s.tag, written s m)
def fieldsOf (m : Msg) : List Fld := (slotsOf (gi m 0)).filterMap (fieldAt m)
def encode (m : Msg) : List UInt8 × Int := if (valid m).1 != 0 then ([], (valid m).1) else join (fieldsOf m)
def fitsIn (s : Slot) (m : Msg) (v : List UInt8) : Option Msg :=
 if s.tag == 98 then if v == [48] then some m else none
 else if s.tag == 18 then if v == [54] then some m else none
 else if s.tag == 530 then if v == [49] || v == [55] then some m else none
 else ((formAt s.num).read v).map fun c => m.set (cellOf s.num) c
def valueOf (l : List Fld) (tag : Int) : Option (Nat × List UInt8) := (l.findIdx? fun f => f.1 == tag).map fun i => (i, (l.getD i (0, [])).2)
def placeOf (l : List Fld) (tag : Int) : Int := match valueOf l tag with | some x => x.1 | none => -1
def textOf (l : List Fld) (tag : Int) : List UInt8 := match valueOf l tag with | some x => x.2 | none => []
abbrev Flaw := Int × Int × Int
def noMsg : Msg := tys.map fun t => match t with | .I => .I 0 | .S => .S [] | .B => .B false
def readFrom (all : List Slot) (l : List Fld) (i : Nat) (m : Msg) : List Fld → Msg × Flaw
 | [] => (m, (0, 0, 0))
 | f :: r => match findSlot all f.1 with
  | none => if !knownTag f.1 then (m, (52, i, f.1)) else (m, (53, i, f.1))
  | some s => if placeOf l f.1 < i then (m, (51, i, f.1)) else match fitsIn s m f.2 with
   | none => (m, (31, i, f.1))
   | some m' => readFrom all l (i + 1) m' r
def lacks (all : List Slot) (l : List Fld) : Option Slot := all.find? fun s => s.must && decide (placeOf l s.tag < 0)
def lifeOf (m : Msg) (l : List Fld) : Msg := if 0 ≤ placeOf l 18 then m.set 25 (.I 7) else m
def fitAll (m : Msg) (l : List Fld) : Msg × Flaw :=
 if 0 ≤ placeOf l 18 ∧ textOf l 59 ≠ [48] then (m, (31, placeOf l 18, 18))
 else
  let m := lifeOf m l
  if 0 ≤ placeOf l 530 ∧ textOf l 530 ≠ scopeOf m then (m, (31, placeOf l 530, 530))
  else
   let v := valid m
   if v.1 == 0 then (m, (0, 0, 0))
   else (m, (v.1, if placeOf l v.2 < 0 then (l.length : Int) else placeOf l v.2, v.2))
def readAll (l : List Fld) : Msg × Flaw := match l with
 | [] => (noMsg, (50, 0, 35))
 | f :: r => if f.1 != 35 then (noMsg, (50, 0, 35)) else match (formAt 35).read f.2 with
  | none => (noMsg, (30, 0, 35))
  | some c =>
   let m := noMsg.set 0 c
   let all := slotsOf (gi m 0)
   let x := readFrom all l 1 m r
   if x.2.1 != 0 then x
   else match lacks all l with
    | some s => (x.1, (50, (l.length : Int), s.tag))
    | none => fitAll x.1 l
def decode (b : List UInt8) : Msg ⊕ (Int × Int) := match split b with
 | .inr e => .inr e
 | .inl l => let x := readAll l; if x.2.1 != 0 then .inr (x.2.2.1, x.2.1) else .inl x.1
def answer (e : Int) : Int := if e == 30 then 11 else if e == 50 then 1 else if e == 53 then 2 else if e == 51 then 13 else if e == 31 then 5 else 0
def headSlots : List Slot := [49, 56, 34, 43, 52, 122].map fun n => ⟨n, n, false⟩
def partFrom (l : List Fld) : Msg → List Slot → Msg
 | m, [] => m
 | m, s :: r => partFrom l (if 0 ≤ placeOf l s.tag ∧ s.num ≠ 0 ∧ s.num ≠ 35 then (fitsIn s m (textOf l s.tag)).getD m else m) r
def partly (l : List Fld) : Msg :=
 let m := match l with
  | [] => noMsg
  | f :: _ => if f.1 == 35 then ((formAt 35).read f.2).elim noMsg fun c => noMsg.set 0 c else noMsg
 let all := slotsOf (gi m 0) ++ if gi m 0 == 0 then headSlots else []
 let m := partFrom l m all
 if orders (gi m 0) && textOf l 18 == [54] && textOf l 59 == [48] then m.set 25 (.I 7) else m
def why (b : List UInt8) : Int × Int × Msg := match split b with
 | .inr _ => (-1, 0, noMsg)
 | .inl l => let x := readAll l; if x.2.1 == 0 then (0, 0, x.1) else (answer x.2.1, x.2.2.2, partly l)
end
section
open Go
theorem toNat_ofNat (n : Nat) (h : n < 256) : (UInt8.ofNat n).toNat = n := by simp; omega
theorem digit_isDigit (d : Nat) (h : d < 10) : isDigit (UInt8.ofNat (48 + d)) = true := by
 rw [isDigit_iff, toNat_ofNat _ (by omega)]; omega
theorem natFrom_snoc (a : Nat) (s : List UInt8) (c : UInt8) : natFrom a (s ++ [c]) = natFrom a s * 10 + (c.toNat - 48) := by
 rw [natFrom_append]; rfl
theorem natOf_snoc (s : List UInt8) (c : UInt8) : natOf (s ++ [c]) = natOf s * 10 + (c.toNat - 48) := natFrom_snoc 0 s c
theorem decDigits_all (u : Nat) : (Lib.decDigits u).all isDigit = true := by
 induction u using Nat.strongRecOn with
 | _ u ih =>
  rw [Lib.decDigits]; split
  · simp only [List.all_cons, List.all_nil, Bool.and_true]; exact digit_isDigit u (by omega)
  · rw [List.all_append, ih (u / 10) (by omega)]; simp only [List.all_cons, List.all_nil, Bool.and_true, Bool.true_and]; exact digit_isDigit _ (by omega)
theorem natOf_decDigits (u : Nat) : natOf (Lib.decDigits u) = u := by
 induction u using Nat.strongRecOn with
 | _ u ih =>
  rw [Lib.decDigits]; split
  · show 0 * 10 + ((UInt8.ofNat (48 + u)).toNat - 48) = u
    rw [toNat_ofNat _ (by omega)]; omega
  · rw [natOf_snoc, ih (u / 10) (by omega), toNat_ofNat _ (by omega)]; omega
theorem decDigits_ne (u : Nat) : Lib.decDigits u ≠ [] := by
 intro h; have := Lib.decDigits_length u; have := Lib.nDigits_pos u; rw [h] at *; simp at *; omega
theorem decDigits_head (u : Nat) (h : u ≠ 0) : (Lib.decDigits u).headD 0 ≠ 48 := by
 induction u using Nat.strongRecOn with
 | _ u ih =>
  rw [Lib.decDigits]; split
  · intro e; have : (UInt8.ofNat (48 + u)).toNat = 48 := by rw [List.headD_cons] at e; rw [e]; rfl
    rw [toNat_ofNat _ (by omega)] at this; omega
  · have hne := decDigits_ne (u / 10); have := ih (u / 10) (by omega) (by omega)
    revert this hne
    cases Lib.decDigits (u / 10) with
    | nil => intro h; exact absurd rfl h
    | cons c r => intro _ h; simpa using h
theorem decDigits_len_one (u : Nat) (h : 1 < (Lib.decDigits u).length) : u ≠ 0 := by
 rintro rfl; rw [Lib.decDigits_one (by decide)] at h; simp at h
theorem numeral_decDigits (u : Nat) : numeral (Lib.decDigits u) = true := by
 unfold numeral; rw [decDigits_all]; have h1 : (Lib.decDigits u).isEmpty = false := by
  have := decDigits_ne u; cases h : Lib.decDigits u with
  | nil => exact absurd h this
  | cons c r => rfl
 rw [h1]; by_cases hl : 1 < (Lib.decDigits u).length
 · have := decDigits_head u (decDigits_len_one u hl); simp only [List.headD_eq_head?_getD] at this; simp [this]
 · simp [hl]
theorem itoa_nat {n : Int} (h : 0 ≤ n) : Lib.itoa n = Lib.decDigits n.toNat := by unfold Lib.itoa; rw [if_neg (by omega)]
theorem parseUint_itoa {n most : Int} (h0 : 0 ≤ n) (h1 : n ≤ most) (h2 : most ≤ 9223372036854775807) : parseUint (Lib.itoa n) most = (n, 0) := by
 rw [itoa_nat h0]; unfold parseUint; rw [numeral_decDigits, natOf_decDigits]; simp only [Bool.not_true, Bool.false_eq_true, if_false]; rw [if_neg (by unfold greatest; omega)]; congr 1
 omega
theorem decDigits_le {u k : Nat} (hk : 0 < k) (h : u < 10 ^ k) : (Lib.decDigits u).length ≤ k := by
 rw [Lib.decDigits_length]
 induction k generalizing u with
 | zero => omega
 | succ k ih =>
  by_cases hu : u < 10
  · rw [Lib.nDigits_small hu]; omega
  · rw [Lib.nDigits_big hu]; by_cases hk0 : k = 0
    · subst hk0; simp at h; omega
    · have := ih (u := u / 10) (by omega) (by rw [Nat.pow_succ] at h; omega); omega
theorem inDigits_len (n k : Nat) : (inDigits n k).length = k := by
 induction k generalizing n with
 | zero => rfl
 | succ k ih => unfold inDigits; rw [List.length_append, ih]; rfl
theorem inDigits_all (n k : Nat) : (inDigits n k).all isDigit = true := by
 induction k generalizing n with
 | zero => rfl
 | succ k ih =>
  unfold inDigits; rw [List.all_append, ih]; simp only [List.all_cons, List.all_nil, Bool.and_true, Bool.true_and]; exact digit_isDigit _ (by omega)
theorem natOf_inDigits (n k : Nat) : natOf (inDigits n k) = n % 10 ^ k := by
 induction k generalizing n with
 | zero => show 0 = n % 1; omega
 | succ k ih =>
  unfold inDigits; rw [natOf_snoc, ih, toNat_ofNat _ (by omega), Nat.pow_succ, Nat.mul_comm (10 ^ k) 10, Nat.mod_mul]; omega
theorem readOf_inDigits {n k : Nat} (h : n < 10 ^ k) : readOf (inDigits n k) = n := by
 unfold readOf; rw [inDigits_all, if_pos rfl, natOf_inDigits, Nat.mod_eq_of_lt h]
theorem decDigits_inDigits {u : Nat} : ∀ {k : Nat}, 10 ^ k ≤ u → u < 10 ^ (k + 1) → Lib.decDigits u = inDigits u (k + 1) := by
 intro k
 induction k generalizing u with
 | zero =>
  intro h0 h1; rw [Lib.decDigits_one (by simpa using h1)]; unfold inDigits inDigits; rw [Nat.mod_eq_of_lt (by simpa using h1)]; rfl
 | succ k ih =>
  intro h0 h1; have hp : 1 ≤ 10 ^ k := Nat.one_le_pow _ _ (by decide); rw [Nat.pow_succ] at h0; rw [Nat.pow_succ] at h1; rw [Lib.decDigits, dif_neg (by omega), ih (u := u / 10) (by omega) (by omega)]; rfl
theorem take_app {α : Type} {a b : List α} {n : Nat} (h : a.length = n) : (a ++ b).take n = a := by subst h; simp
theorem drop_app {α : Type} {a b : List α} {n : Nat} (h : a.length = n) : (a ++ b).drop n = b := by subst h; simp
theorem stamp_len (ms : Int) : (stampOf ms).length = 21 := by unfold stampOf; simp [inDigits_len]
theorem parseStamp_parts {A B C E F : List UInt8} (lA : A.length = 8) (lB : B.length = 2) (lC : C.length = 2) (lE : E.length = 2) (lF : F.length = 3) :
 parseStamp (A ++ ([45] ++ (B ++ ([58] ++ (C ++ ([58] ++ (E ++ ([46] ++ F)))))))) = match dayOf (readOf A) with
  | none => (0, 20)
  | some n => if within (readOf B) 23 && within (readOf C) 59 && within (readOf E) 59 && within (readOf F) 999 then (n * 86400000 + (readOf B * 3600000 + readOf C * 60000 + readOf E * 1000 + readOf F), 0) else (0, 20) := by
 match A, lA, B, lB, C, lC, E, lE, F, lF with
 | [a0, a1, a2, a3, a4, a5, a6, a7], _, [b0, b1], _, [c0, c1], _, [d0, d1], _, [f0, f1, f2], _ => rfl
theorem parseStamp_stampOf {ms : Int} (h0 : 0 ≤ ms) (h1 : ms ≤ maxTime) : parseStamp (stampOf ms) = (ms, 0) := by
 unfold maxTime at h1; have hd0 : 0 ≤ ms / dayMs := by unfold dayMs; omega
 have hd1 : ms / dayMs ≤ 2932896 := by unfold dayMs; omega
 obtain ⟨e1, e2, e3⟩ := dayOf_dateOf _ hd0 hd1; obtain ⟨left, hleft⟩ : ∃ l : Nat, (ms % dayMs).toNat = l := ⟨_, rfl⟩
 have hlt : left < 86400000 := by unfold dayMs at hleft; omega
 obtain ⟨D, hD⟩ : ∃ D : Nat, (dateOf (ms / dayMs)).toNat = D := ⟨_, rfl⟩
 have hDi : dateOf (ms / dayMs) = (D : Int) := by omega
 have hst : stampOf ms = inDigits D 8 ++ ([45] ++ (inDigits (left / 3600000) 2 ++ ([58] ++ (inDigits (left / 60000 % 60) 2 ++ ([58] ++ (inDigits (left / 1000 % 60) 2 ++ ([46] ++ inDigits (left % 1000) 3))))))) := by
  unfold stampOf; simp only [hleft, hD, List.append_assoc]
 rw [hst, parseStamp_parts (inDigits_len _ _) (inDigits_len _ _) (inDigits_len _ _) (inDigits_len _ _) (inDigits_len _ _),
  readOf_inDigits (show D < 10 ^ 8 by omega), readOf_inDigits (show left / 3600000 < 10 ^ 2 by omega), readOf_inDigits (show left / 60000 % 60 < 10 ^ 2 by omega),
  readOf_inDigits (show left / 1000 % 60 < 10 ^ 2 by omega), readOf_inDigits (show left % 1000 < 10 ^ 3 by omega), ← hDi, e1]
 unfold within; simp only; rw [if_pos (by simp; omega)]; congr 1
 unfold dayMs at hleft ⊢; omega
theorem takeWhile_app {p : UInt8 → Bool} {a b : List UInt8} (ha : a.all p = true) (hb : ∀ x ∈ b.head?, p x = false) : (a ++ b).takeWhile p = a ∧ (a ++ b).dropWhile p = b := by
 induction a with
 | nil =>
  cases b with
  | nil => simp
  | cons x r => have := hb x (by simp); simp [List.takeWhile_cons, List.dropWhile_cons, this]
 | cons c r ih =>
  simp only [List.all_cons, Bool.and_eq_true] at ha; obtain ⟨i1, i2⟩ := ih ha.2; simp [List.takeWhile_cons, List.dropWhile_cons, ha.1, i1, i2]
theorem digits_noDot {s : List UInt8} (h : s.all isDigit = true) : s.all (· != 46) = true := by
 rw [List.all_eq_true] at *; intro x hx; have := (isDigit_iff x).1 (h x hx); simp only [bne_iff_ne]; rintro rfl; simp at this
theorem trimNoughts_spec (s : List UInt8) : ∃ k, s = trimNoughts s ++ List.replicate k 48 := by
 unfold trimNoughts; have h : s.reverse = s.reverse.takeWhile (· == 48) ++ s.reverse.dropWhile (· == 48) := (List.takeWhile_append_dropWhile).symm; refine ⟨(s.reverse.takeWhile (· == 48)).length, ?_⟩; have h2 : s.reverse.takeWhile (· == 48) = List.replicate (s.reverse.takeWhile (· == 48)).length 48 := by
  refine List.eq_replicate_iff.2 ⟨rfl, fun x hx => ?_⟩; have := List.all_eq_true.1 (List.all_takeWhile (p := (· == (48 : UInt8))) (l := s.reverse)) x hx; simpa using this
 have h3 := congrArg List.reverse h; rw [List.reverse_reverse, List.reverse_append] at h3; refine h3.trans ?_; congr 1
 rw [h2, List.reverse_replicate, List.length_replicate]
theorem natOf_noughts (s : List UInt8) (k : Nat) : natOf (s ++ List.replicate k 48) = natOf s * 10 ^ k := by
 induction k with
 | zero => simp
 | succ k ih =>
  rw [List.replicate_succ', ← List.append_assoc, natOf_snoc, ih, Nat.pow_succ]; simp
  rw [Nat.mul_assoc]
theorem all_trim {s : List UInt8} (h : s.all isDigit = true) : (trimNoughts s).all isDigit = true := by
 obtain ⟨k, e⟩ := trimNoughts_spec s; rw [e, List.all_append, Bool.and_eq_true] at h; exact h.1
theorem natOf_cons_digits (s : List UInt8) : natOf (49 :: s) = 10 ^ s.length + natOf s := by
 have : ∀ (s : List UInt8) (a : Nat), natFrom a s = a * 10 ^ s.length + natOf s := by
  intro s
  induction s with
  | nil => intro a; simp [natFrom, natOf]
  | cons c r ih =>
   intro a; show natFrom (a * 10 + (c.toNat - 48)) r = a * 10 ^ (r.length + 1) + natFrom (0 * 10 + (c.toNat - 48)) r
   rw [ih, ih (0 * 10 + (c.toNat - 48)), Nat.pow_succ, Nat.add_mul, Nat.add_mul]; have : a * 10 * 10 ^ r.length = a * (10 ^ r.length * 10) := by rw [Nat.mul_assoc, Nat.mul_comm 10]
   omega
 show natFrom (0 * 10 + ((49 : UInt8).toNat - 48)) s = _
 rw [this]; simp
theorem part_digits (q : Nat) (h : q < 10000) : (Lib.itoa ((10000 + q : Nat) : Int)).drop 1 = inDigits q 4 := by
 rw [itoa_nat (by omega), Int.toNat_natCast, decDigits_inDigits (k := 4) (by omega) (by omega)]; unfold inDigits inDigits inDigits inDigits inDigits inDigits; have e1 : (10000 + q) % 10 = q % 10 := by omega
 have e2 : (10000 + q) / 10 % 10 = q / 10 % 10 := by omega
 have e3 : (10000 + q) / 10 / 10 % 10 = q / 10 / 10 % 10 := by omega
 have e4 : (10000 + q) / 10 / 10 / 10 % 10 = q / 10 / 10 / 10 % 10 := by omega
 rw [e1, e2, e3, e4]; rfl
theorem parsePrice_priceOf {p : Int} (h0 : 0 ≤ p) (h1 : p ≤ maxPrice) : parsePrice (priceOf p) = (p, 0) := by
 unfold maxPrice at h1; obtain ⟨n, rfl⟩ : ∃ n : Nat, p = (n : Int) := ⟨p.toNat, by omega⟩
 unfold priceOf; have eq1 : ((n : Int) / 10000) = ((n / 10000 : Nat) : Int) := by omega
 have eq2 : ((n : Int) % 10000) = ((n % 10000 : Nat) : Int) := by omega
 rw [eq1, eq2, itoa_nat (by omega), Int.toNat_natCast]; have hw := decDigits_all (n / 10000); have hwd := digits_noDot hw; by_cases hz : n % 10000 = 0
 · rw [if_pos (by omega), List.append_nil]; have hc : (Lib.decDigits (n / 10000)).contains 46 = false := by
    rw [Bool.eq_false_iff]; intro hc; have := List.all_eq_true.1 hwd 46 (by simpa using hc); simp at this
   obtain ⟨t1, t2⟩ := takeWhile_app (b := []) hwd (by simp); rw [List.append_nil] at t1 t2; unfold parsePrice; simp only [hc, t1, t2, numeral_decDigits, natOf_decDigits, Bool.false_and, Bool.or_false, Bool.not_true, Bool.false_eq_true, if_false]; rw [if_neg (by unfold greatest; omega)]; have e : natOf (49 :: List.drop 1 [] ++ List.drop (List.drop 1 ([] : List UInt8)).length [48, 48, 48, 48]) = 10000 := by decide
   simp only [e]; rw [if_neg (by omega)]; refine Prod.ext ?_ rfl; show _ = (n : Int)
   omega
 · rw [if_neg (by omega), show (10000 : Int) + ((n % 10000 : Nat) : Int) = ((10000 + n % 10000 : Nat) : Int) by omega, part_digits _ (by omega)]; have hq := natOf_inDigits (n % 10000) 4; have hql := inDigits_len (n % 10000) 4; have hqd := inDigits_all (n % 10000) 4; obtain ⟨k, hk⟩ := trimNoughts_spec (inDigits (n % 10000) 4); have hrd := all_trim hqd; generalize hr : trimNoughts (inDigits (n % 10000) 4) = r at *; generalize inDigits (n % 10000) 4 = D at *; subst hk; have hlen : r.length + k = 4 := by rw [List.length_append, List.length_replicate] at hql; exact hql
   have hrne : r ≠ [] := by
    rintro rfl; rw [List.nil_append] at hq; have h0 : natOf (List.replicate k 48) = 0 := by
     have := natOf_noughts [] k; rw [List.nil_append] at this; rw [this]; show 0 * _ = 0; omega
    rw [h0] at hq; omega
   obtain ⟨t1, t2⟩ := takeWhile_app (b := 46 :: r) hwd (by simp); have hc : (Lib.decDigits (n / 10000) ++ 46 :: r).contains 46 = true := by simp
   have hnum : numeral (49 :: r) = true := by
    unfold numeral; simp only [List.isEmpty_cons, List.headD_cons, List.all_cons, hrd]; have h1 : isDigit 49 = true := by decide
    have h2 : ((49 : UInt8) == 48) = false := by decide
    rw [h1, h2]; simp
   have he : r.isEmpty = false := by cases r with | nil => exact absurd rfl hrne | cons => rfl
   have hfull : 49 :: r ++ ([48, 48, 48, 48] : List UInt8).drop r.length = 49 :: (r ++ List.replicate k 48) := by
    have : ([48, 48, 48, 48] : List UInt8) = List.replicate 4 48 := rfl; rw [this, List.drop_replicate, List.cons_append]; congr 3
    omega
   unfold parsePrice; simp only [hc, t1, t2, List.drop_succ_cons, List.drop_zero, numeral_decDigits, natOf_decDigits, he, hnum, Bool.not_true, Bool.false_or, Bool.or_false, Bool.true_and]; rw [if_neg (by simp; omega), if_neg (by unfold greatest; omega), hfull, natOf_cons_digits, hql, hq]; have e4 : 10 ^ 4 = 10000 := rfl; simp only [e4, Nat.mod_mod]; rw [if_neg (by omega)]; refine Prod.ext ?_ rfl; show _ = (n : Int)
   omega
end
section
open Go
theorem bodyOf_fits (l : List Fld) : ∀ b, (b ++ (l.map piece).flatten).length ≤ 1024 → bodyOf b l = b ++ (l.map piece).flatten := by
 induction l with
 | nil => intro b _; simp [bodyOf]
 | cons f l ih =>
  intro b h; unfold bodyOf; simp only [List.map_cons, List.flatten_cons, List.length_append] at h; rw [if_pos (by omega), ih _ (by simp only [List.length_append]; omega)]; simp
theorem sum_digits (q : Nat) (h : q < 1000) : (Lib.itoa ((1000 + q : Nat) : Int)).drop 1 = inDigits q 3 := by
 rw [itoa_nat (by omega), Int.toNat_natCast, decDigits_inDigits (k := 3) (by omega) (by omega)]; unfold inDigits inDigits inDigits inDigits inDigits; have e1 : (1000 + q) % 10 = q % 10 := by omega
 have e2 : (1000 + q) / 10 % 10 = q / 10 % 10 := by omega
 have e3 : (1000 + q) / 10 / 10 % 10 = q / 10 / 10 % 10 := by omega
 rw [e1, e2, e3]; rfl
theorem sumOf_lt (s : List UInt8) : sumOf s < 256 := by unfold sumOf; omega
def outOf (body : List UInt8) : List UInt8 := headOf ++ Lib.itoa body.length ++ [1] ++ body
theorem framed_split (body : List UInt8) : framed body = outOf body ++ ([49, 48, 61] ++ (inDigits (sumOf (outOf body)) 3 ++ [1])) := by
 unfold framed; have := sum_digits (sumOf (outOf body)) (by have := sumOf_lt (outOf body); omega); have e : ((1000 : Int) + (sumOf (outOf body) : Int)) = ((1000 + sumOf (outOf body) : Nat) : Int) := by omega
 show outOf body ++ ([49, 48, 61] ++ (Lib.itoa (1000 + (sumOf (outOf body) : Int))).drop 1 ++ [1]) = _
 rw [e, this, List.append_assoc]
theorem framed_len (body : List UInt8) : (framed body).length = (outOf body).length + 7 := by
 rw [framed_split]; simp [inDigits_len]
theorem outOf_len (body : List UInt8) : (outOf body).length = 13 + (Lib.itoa body.length).length + body.length := by
 unfold outOf headOf; simp; omega
theorem differs_hits {s : List UInt8} : ∀ {ts : List UInt8} {k : Nat}, (∀ i, (h : i < ts.length) → misses s[k + i]? ts[i] = false) → differs s k ts = -1
 | [], _, _ => rfl
 | t :: ts, k, h => by
  have h0 := h 0 (by simp); rw [differs_hit (by simpa using h0)]; refine differs_hits fun i hi => ?_
  have := h (i + 1) (by simpa using hi); rw [show k + 1 + i = k + (i + 1) by omega]; simpa using this
theorem misses_same {c : UInt8} (h : c ≠ 35) : misses (some c) c = false := by
 unfold misses; have : (c == 35) = false := by simpa using h
 simp [this]
theorem misses_digit {c : UInt8} (h : isDigit c = true) : misses (some c) 35 = false := by simp [misses, h]
theorem digitsAt_app {P D R : List UInt8} (hD : D.all isDigit = true) (hR : ∀ x ∈ R.head?, isDigit x = false) : digitsAt (P ++ (D ++ R)) P.length = D.length := by
 unfold digitsAt; rw [drop_app rfl, (takeWhile_app hD hR).1]
theorem headTells_framed {body : List UInt8} (hb : body.length ≤ 1024) {r : List UInt8} : headTells (outOf body ++ r) = .inl (body.length, 12 + (Lib.itoa body.length).length + 1) := by
 have hi := itoa_nat (n := (body.length : Int)) (by omega); rw [Int.toNat_natCast] at hi; have hs : outOf body ++ r = headOf ++ (Lib.itoa body.length ++ (1 :: (body ++ r))) := by unfold outOf; simp
 rw [hs, hi]; have hd := decDigits_all body.length; have hn := natOf_decDigits body.length; have hne := decDigits_ne body.length; have hle : (Lib.decDigits body.length).length ≤ 4 := decDigits_le (by decide) (by omega); have hh := decDigits_head body.length; have h1 := decDigits_len_one body.length; generalize Lib.decDigits body.length = D at *; have hDl : D.length ≠ 0 := fun e => hne (List.eq_nil_of_length_eq_zero e)
 unfold headTells; have hdf : differs (headOf ++ (D ++ (1 :: (body ++ r)))) 0 headOf = -1 := by
  refine differs_hits fun i hi => ?_
  rw [Nat.zero_add, List.getElem?_append_left hi, List.getElem?_eq_getElem hi]; have : ∀ c ∈ headOf, misses (some c) c = false := by decide
  exact this _ (List.getElem_mem _)
 have hdg : digitsAt (headOf ++ (D ++ (1 :: (body ++ r)))) 12 = D.length := by
  have := digitsAt_app (P := headOf) (D := D) (R := 1 :: (body ++ r)) hd (by simp; decide); exact this
 have hdrop : (headOf ++ (D ++ (1 :: (body ++ r)))).drop 12 = D ++ (1 :: (body ++ r)) := drop_app rfl; have htk : (D ++ (1 :: (body ++ r))).take D.length = D := take_app rfl; rw [hdf, hdg, hdrop]; simp only [htk]; have g1 : (headOf ++ (D ++ (1 :: (body ++ r))))[12]? = D[0]? := by
  rw [List.getElem?_append_right (by decide), List.getElem?_append_left (by simp [headOf]; omega)]; rfl
 have g2 : (headOf ++ (D ++ (1 :: (body ++ r))))[12 + D.length]? = some 1 := by
  rw [List.getElem?_append_right (by simp [headOf]), List.getElem?_append_right (by simp [headOf])]; simp [headOf]
 have hlen : (headOf ++ (D ++ (1 :: (body ++ r)))).length = 12 + D.length + 1 + (body ++ r).length := by simp [headOf]; omega
 rw [g1, g2, hlen, hn]; rw [if_neg (by decide), if_neg, if_neg (by omega), if_neg]
 · rintro (h | h | h)
   · exact hDl h
   · omega
   · exact h rfl
 · rintro ⟨h2, h3⟩; refine hh (h1 h2) ?_; cases D with
   | nil => exact absurd rfl hne
   | cons c t => simpa using h3
theorem endsTell_framed (body : List UInt8) : endsTell (framed body) = none := by
 rw [framed_split]; have hS := natOf_inDigits (sumOf (outOf body)) 3; have hs := sumOf_lt (outOf body); rw [Nat.mod_eq_of_lt (by omega)] at hS; have hl := inDigits_len (sumOf (outOf body)) 3; have ha := inDigits_all (sumOf (outOf body)) 3; generalize hD : inDigits (sumOf (outOf body)) 3 = D at *
 match D, hl with
 | [a, b, c], _ =>
  simp only [List.all_cons, List.all_nil, Bool.and_true, Bool.and_eq_true] at ha; obtain ⟨ha, hb, hc⟩ := ha; generalize outOf body = out at *; have hlen : (out ++ ([49, 48, 61] ++ ([a, b, c] ++ [1]))).length - 7 = out.length := by simp
  unfold endsTell; have hd : differs (out ++ ([49, 48, 61] ++ ([a, b, c] ++ [1]))) ((out ++ ([49, 48, 61] ++ ([a, b, c] ++ [1]))).length - 7) lastOf = -1 := by
   rw [hlen]; refine differs_hits fun i hi => ?_
   rw [List.getElem?_append_right (by omega), Nat.add_sub_cancel_left]; have h7 : i < 7 := hi; have : i = 0 ∨ i = 1 ∨ i = 2 ∨ i = 3 ∨ i = 4 ∨ i = 5 ∨ i = 6 := by omega
   rcases this with rfl | rfl | rfl | rfl | rfl | rfl | rfl
   · exact misses_same (c := 49) (by decide)
   · exact misses_same (c := 48) (by decide)
   · exact misses_same (c := 61) (by decide)
   · exact misses_digit ha
   · exact misses_digit hb
   · exact misses_digit hc
   · exact misses_same (c := 1) (by decide)
  rw [hd]; simp only; rw [if_neg (by decide)]; have ht : toldSum (out ++ ([49, 48, 61] ++ ([a, b, c] ++ [1]))) = sumOf out := by
   unfold toldSum; rw [hlen, ← hS, ← List.append_assoc, drop_app (by simp)]; rfl
  rw [ht, hlen, take_app rfl, if_neg (by simp)]
theorem tag_good {t : Int} (h : tagBad t = false) : 1 ≤ t ∧ t ≤ 9999 ∧ t ≠ 8 ∧ t ≠ 9 ∧ t ≠ 10 := by
 unfold tagBad at h; simp only [Bool.or_eq_false_iff, Bool.and_eq_false_iff, decide_eq_false_iff_not] at h; omega
theorem tagTell_good {t : Int} (h : tagBad t = false) : tagTell (Lib.itoa t) = (t, true) := by
 obtain ⟨h1, h2, h3, h4, h5⟩ := tag_good h; unfold tagTell; rw [parseUint_itoa (by omega) h2 (by omega)]; simp [h1, h3, h4, h5]
theorem get_take {α : Type} {s : List α} {stop i : Nat} (h : i < stop) : s[i]? = (s.take stop)[i]? := by
 rw [List.getElem?_take, if_pos h]
theorem piece_take {α : Type} {s : List α} {stop k n : Nat} (h : k + n ≤ stop) : (s.drop k).take n = ((s.take stop).drop k).take n := by
 rw [List.drop_take, List.take_take, Nat.min_eq_left (by omega)]
theorem fieldTell_piece {s P R : List UInt8} {f : Fld} {stop k : Nat} (hs : s.take stop = P ++ (piece f ++ R)) (hk : P.length = k) (hl : stop ≤ s.length) (ht : tagBad f.1 = false) (hv : valued f.2 = true) :
 fieldTell s k stop = .inl (f, k + (piece f).length) := by
 obtain ⟨t, v⟩ := f; simp only at ht hv; obtain ⟨t1, t2, t3⟩ := tag_good ht; have hstop : stop = (P ++ (piece (t, v) ++ R)).length := by rw [← hs, List.length_take, Nat.min_eq_left hl]
 have htag := tagTell_good ht; have hd : (Lib.itoa t).all isDigit = true := by rw [itoa_nat (by omega)]; exact decDigits_all _
 have hp : piece (t, v) ++ R = Lib.itoa t ++ (61 :: (v ++ (1 :: R))) := by unfold piece; simp
 have hpl : (piece (t, v)).length = (Lib.itoa t).length + 1 + v.length + 1 := by unfold piece; simp; omega
 generalize Lib.itoa t = D at *; unfold valued at hv; simp only [Bool.and_eq_true] at hv; obtain ⟨hv1, hv2⟩ := hv; have hvl : v.length ≠ 0 := by cases v with | nil => simp at hv2 | cons => simp
 rw [hp] at hs hstop; rw [hpl]; subst hk; have hst : stop = P.length + D.length + 1 + v.length + 1 + R.length := by rw [hstop]; simp; omega
 have e1 : digitsAt (s.take stop) P.length = D.length := by rw [hs]; exact digitsAt_app hd (by simp; decide)
 have e2 : (s.drop P.length).take D.length = D := by
  rw [piece_take (stop := stop) (by omega), hs, drop_app rfl, take_app rfl]
 have e3 : s[P.length + D.length]? = some 61 := by
  rw [get_take (stop := stop) (by omega), hs, List.getElem?_append_right (by omega), List.getElem?_append_right (by omega)]; simp
 have hs2 : s.take stop = (P ++ (D ++ [61])) ++ (v ++ (1 :: R)) := by rw [hs]; simp
 have hl2 : (P ++ (D ++ [61])).length = P.length + D.length + 1 := by simp; omega
 have e4 : (((s.take stop).drop (P.length + D.length + 1)).takeWhile shown).length = v.length := by
  rw [hs2, drop_app hl2, (takeWhile_app hv1 (by simp; decide)).1]
 have e5 : (s.drop (P.length + D.length + 1)).take v.length = v := by
  rw [piece_take (stop := stop) (by omega), hs2, drop_app hl2, take_app rfl]
 have e6 : s[P.length + D.length + 1 + v.length]? = some 1 := by
  rw [get_take (stop := stop) (by omega), hs2, List.getElem?_append_right (by omega), List.getElem?_append_right (by omega)]; rw [hl2]; simp
 unfold fieldTell; simp only [e1, e2, htag, e3, e4, e5, e6]; rw [if_neg (by rintro (h | h | h) <;> first | omega | exact h rfl | cases h), if_neg (by rintro (h | h | h) <;> first | omega | exact h rfl | cases h)]; refine congrArg Sum.inl (Prod.ext rfl ?_); simp only; omega
theorem fieldsTell_pieces {s : List UInt8} {stop : Nat} (hl : stop ≤ s.length) : ∀ (l : List Fld) (P : List UInt8) (k fuel : Nat) (acc : List Fld), s.take stop = P ++ (l.map piece).flatten → P.length = k →
 l.length < fuel → (∀ f ∈ l, tagBad f.1 = false ∧ valued f.2 = true) → fieldsTell s stop fuel k acc = .inl (acc ++ l)
 | [], P, k, fuel + 1, acc, hs, hk, hf, hg => by
  have : stop = k := by
   have := congrArg List.length hs; rw [List.length_take, Nat.min_eq_left hl] at this; simp at this; omega
  unfold fieldsTell; rw [if_pos (by omega)]; simp
 | f :: l, P, k, fuel + 1, acc, hs, hk, hf, hg => by
  have hlen : stop = k + (piece f).length + ((l.map piece).flatten).length := by
   have := congrArg List.length hs; rw [List.length_take, Nat.min_eq_left hl] at this; simp only [List.map_cons, List.flatten_cons, List.length_append] at this; omega
  have hpos : 0 < (piece f).length := by unfold piece; simp; omega
  unfold fieldsTell; rw [if_neg (by omega)]; obtain ⟨h1, h2⟩ := hg f (by simp); rw [fieldTell_piece (P := P) (R := (l.map piece).flatten) (by simpa using hs) hk hl h1 h2]; simp only; rw [fieldsTell_pieces hl l (P ++ piece f) (k + (piece f).length) fuel (acc ++ [f]) (by simpa using hs) (by simp; omega) (by simp at hf; omega) (fun g hg' => hg g (by simp [hg']))]; simp
 | [], P, k, 0, acc, hs, hk, hf, hg => by omega
 | f :: l, P, k, 0, acc, hs, hk, hf, hg => by omega
structure Joins (l : List Fld) : Prop where
 tags : ∀ f ∈ l, tagBad f.1 = false
 values : ∀ f ∈ l, valued f.2 = true
 len : (framed ((l.map piece).flatten)).length ≤ 1024
theorem Joins.join {l : List Fld} (h : Joins l) : join l = (framed ((l.map piece).flatten), 0) := by
 have hl := h.len; have hb : bodyOf [] l = (l.map piece).flatten := by
  refine bodyOf_fits l [] ?_; rw [framed_len, outOf_len] at hl; rw [List.nil_append]; omega
 unfold Go.Proofs.YtdmjinlgdkgoiaaGreatDoor.join; rw [if_neg (by
  simp only [List.any_eq_true, not_exists, not_and, Bool.not_eq_true]; exact h.tags), if_neg (by
  simp only [Bool.not_eq_true', Bool.not_eq_false, List.all_eq_true]; exact h.values), hb, if_neg (by omega)]
theorem Joins.split {l : List Fld} (h : Joins l) : split (framed ((l.map piece).flatten)) = .inl l := by
 have hl := h.len; have hfe := framed_split ((l.map piece).flatten); have hfl := framed_len ((l.map piece).flatten); have hol := outOf_len ((l.map piece).flatten); have hend := endsTell_framed ((l.map piece).flatten); have hcount : ∀ l : List Fld, l.length ≤ ((l.map piece).flatten).length := by
  intro l
  induction l with
  | nil => simp
  | cons f l ih =>
   have : 0 < (piece f).length := by unfold piece; simp; omega
   simp only [List.map_cons, List.flatten_cons, List.length_append, List.length_cons]; omega
 have hcl := hcount l; have hhead := headTells_framed (body := (l.map piece).flatten) (by omega) (r := [49, 48, 61] ++ (inDigits (sumOf (outOf ((l.map piece).flatten))) 3 ++ [1])); rw [← hfe] at hhead; unfold Go.Proofs.YtdmjinlgdkgoiaaGreatDoor.split; rw [if_neg (by omega), hhead]; simp only; rw [if_neg (by omega), hend]; simp only; refine fieldsTell_pieces (by omega) l (headOf ++ Lib.itoa ((l.map piece).flatten).length ++ [1]) _ _ [] ?_ (by simp [headOf]; omega) (by omega) (fun f hf => ⟨h.tags f hf, h.values f hf⟩); rw [hfe, List.take_append_of_le_length (by omega), List.take_of_length_le (by omega)]; rfl
end
section
open Go
def Form.agrees (f : Form) (r : Row) : Bool := match f, r.what with
 | .numeral lo hi, .num => lo == r.lo && hi == r.hi && decide (0 ≤ lo) && decide (hi ≤ 253402300799999)
 | .coded first words, .num => first == r.lo && decide words.Nodup && words.all (fun w => valued w && decide (w.length ≤ 2)) && decide (r.hi ≤ first + words.length)
 | .priced, .num => decide (1 ≤ r.lo) && decide (r.hi ≤ maxPrice)
 | .timed l, .num => l == r.lo && decide (0 ≤ l) && decide (r.hi ≤ maxTime)
 | .ordered, .num => decide (0 ≤ r.lo) && decide (r.hi ≤ maxSeq)
 | .text .name, .name => true
 | .text .id, .id => true
 | .text .symbol, .symbol => true
 | .text .text, .text => true
 | .text .test, .test => true
 | .flag, .truth => true
 | .date, .date => true
 | _, _ => false
def Form.most : Form → Nat
 | .coded _ _ => 2
 | .priced => 20
 | .timed _ => 21
 | .text .name => 12
 | .text .id => 20
 | .text .symbol => 8
 | .text .test => 20
 | .text _ => 60
 | .flag => 1
 | _ => 15
theorem forms_agree : (List.zipWith Form.agrees (forms.drop 1) rows).all id = true := by decide +kernel
theorem forms_len : forms.length = 42 := by decide
theorem rows_len : rows.length = 41 := by decide
theorem form_agrees {k : Nat} {r : Row} (h : rows[k]? = some r) : ∃ f, forms[k + 1]? = some f ∧ f.agrees r = true := by
 have hk : k < 41 := by have := (List.getElem?_eq_some_iff.1 h).1; rw [rows_len] at this; exact this
 have hf : k + 1 < forms.length := by rw [forms_len]; omega
 refine ⟨forms[k + 1], List.getElem?_eq_getElem hf, ?_⟩; have hz := List.all_eq_true.1 forms_agree; refine hz _ (List.mem_of_getElem? (i := k) ?_); rw [List.getElem?_zipWith, h, List.getElem?_drop, Nat.add_comm 1 k, List.getElem?_eq_getElem hf]; rfl
theorem shown_digit {s : List UInt8} (h : s.all isDigit = true) : s.all shown = true := by
 rw [List.all_eq_true] at *; intro x hx; have := (isDigit_iff x).1 (h x hx); rw [shown_iff]; omega
theorem valued_mk {s : List UInt8} (h : s.all shown = true) (h2 : s ≠ []) : valued s = true := by
 unfold valued; rw [h]; cases s with | nil => exact absurd rfl h2 | cons => rfl
theorem valued_itoa {n : Int} (h : 0 ≤ n) : valued (Lib.itoa n) = true := by
 rw [itoa_nat h]; exact valued_mk (shown_digit (decDigits_all _)) (decDigits_ne _)
theorem itoa_short {n : Int} (h : 0 ≤ n) (h1 : n < 1000000000000000) : (Lib.itoa n).length ≤ 15 := by
 rw [itoa_nat h]; exact decDigits_le (by decide) (by omega)
theorem inDigits_shown (n k : Nat) : (inDigits n k).all shown = true := shown_digit (inDigits_all n k)
theorem valued_stamp (ms : Int) : valued (stampOf ms) = true := by
 refine valued_mk ?_ ?_
 · unfold stampOf; simp only [List.all_append, inDigits_shown, Bool.true_and, Bool.and_true]; decide
 · intro h; have := stamp_len ms; rw [h] at this; simp at this
theorem price_shape {p : Int} (h0 : 0 ≤ p) (h1 : p ≤ maxPrice) : valued (priceOf p) = true ∧ (priceOf p).length ≤ 20 := by
 unfold maxPrice at h1; have hd : (Lib.itoa (p / 10000)).all shown = true := by rw [itoa_nat (by omega)]; exact shown_digit (decDigits_all _)
 have hl : (Lib.itoa (p / 10000)).length ≤ 6 := by rw [itoa_nat (by omega)]; exact decDigits_le (by decide) (by omega)
 have hne : Lib.itoa (p / 10000) ≠ [] := by rw [itoa_nat (by omega)]; exact decDigits_ne _
 have hq : (trimNoughts ((Lib.itoa (10000 + p % 10000)).drop 1)).all shown = true ∧ (trimNoughts ((Lib.itoa (10000 + p % 10000)).drop 1)).length ≤ 4 := by
  obtain ⟨q, hq⟩ : ∃ q : Nat, p % 10000 = q := ⟨(p % 10000).toNat, by omega⟩
  rw [hq, show (10000 : Int) + (q : Int) = ((10000 + q : Nat) : Int) by omega, part_digits q (by omega)]; refine ⟨shown_digit (all_trim (inDigits_all _ _)), ?_⟩; obtain ⟨k, e⟩ := trimNoughts_spec (inDigits q 4); have := congrArg List.length e; rw [inDigits_len, List.length_append] at this; omega
 unfold priceOf; split
 · refine ⟨valued_mk (by rw [List.append_nil]; exact hd) (by rw [List.append_nil]; exact hne), by simp; omega⟩
 · refine ⟨valued_mk ?_ (by simp), by simp only [List.length_append, List.length_cons]; omega⟩; rw [List.all_append, hd, List.all_cons, hq.1]; decide
theorem textSign_shown (c : UInt8) (h : textSign c = true) : shown c = true := by
 have := (textSign_iff c).1 h; rw [shown_iff]; omega
theorem nameSign_shown (c : UInt8) (h : nameSign c = true) : shown c = true := by
 unfold nameSign isGreat isDigit at h; unfold shown; simp only [Bool.or_eq_true, Bool.and_eq_true, decide_eq_true_eq, UInt8.le_iff_toNat_le] at *; simp at *; omega
theorem idSign_shown (c : UInt8) (h : idSign c = true) : shown c = true := by
 unfold idSign isGreat isSmall isDigit at h; unfold shown; simp only [Bool.or_eq_true, Bool.and_eq_true, decide_eq_true_eq, UInt8.le_iff_toNat_le, beq_iff_eq] at *; rcases h with ((((h | h) | h) | rfl) | rfl) | rfl
 · simp at *; omega
 · simp at *; omega
 · simp at *; omega
 · decide
 · decide
 · decide
theorem all_imp {p q : UInt8 → Bool} (h : ∀ c, p c = true → q c = true) {s : List UInt8} (hs : s.all p = true) : s.all q = true := by
 rw [List.all_eq_true] at *; exact fun x hx => h x (hs x hx)
theorem mayText_shape {p : What} {s : List UInt8} (h : mayText p s = true) (h0 : s ≠ []) : valued s = true ∧ s.length ≤ (Form.text p).most := by
 cases p <;> simp only [mayText] at h
 case name =>
  unfold isName at h; simp only [Bool.and_eq_true, decide_eq_true_eq] at h
  exact ⟨valued_mk (all_imp nameSign_shown h.2) h0, by simp only [Form.most]; omega⟩
 case id =>
  unfold isID at h; simp only [Bool.and_eq_true, decide_eq_true_eq] at h
  exact ⟨valued_mk (all_imp idSign_shown h.2) h0, by simp only [Form.most]; omega⟩
 case symbol =>
  unfold isSymbol at h; simp only [Bool.and_eq_true, decide_eq_true_eq] at h
  exact ⟨valued_mk (all_imp nameSign_shown h.1.2) h0, by simp only [Form.most]; omega⟩
 case text =>
  unfold isText at h; simp only [Bool.and_eq_true, decide_eq_true_eq] at h
  exact ⟨valued_mk (all_imp textSign_shown h.2) h0, by simp only [Form.most]; omega⟩
 case test =>
  unfold isTest isText at h; simp only [Bool.and_eq_true, decide_eq_true_eq] at h
  exact ⟨valued_mk (all_imp textSign_shown h.2.2) h0, by simp only [Form.most]; omega⟩
 all_goals cases h
theorem wordAt_get {words : List (List UInt8)} (hn : words.Nodup) {i : Nat} (h : i < words.length) : wordAt words words[i] = some i := by
 unfold wordAt; rw [List.findIdx?_eq_some_iff_getElem]; refine ⟨h, by simp, fun j hj => ?_⟩; simp only [beq_iff_eq]; intro e; have := (List.getElem_inj hn).1 e; omega
theorem above_ok {least n : Int} (h : least ≤ n) : above least (n, 0) = some n := by unfold above; simp [h]
theorem printN_timed (l n : Int) : (Form.timed l).printN n = stampOf n := by unfold Form.printN; rfl
theorem read_timed (l : Int) (s : List UInt8) : (Form.timed l).read s = (above l (parseStamp s)).map .I := by unfold Form.read Form.readN; rfl
theorem printN_ordered {n : Int} (h : n ≠ 0) : Form.ordered.printN n = Lib.itoa n := by
 have e : (n == 0) = false := by simpa using h
 show (if (n == 0) = true then noneL else Lib.itoa n) = _
 simp [e]
theorem read_ordered {s : List UInt8} (h : (s == noneL) = false) : Form.ordered.read s = (above 1 (parseUint s maxSeq)).map .I := by
 show Option.map _ (if (s == noneL) = true then _ else _) = _
 simp [h]
theorem num_back {f : Form} {r : Row} {n : Int} (ha : f.agrees r = true) (hw : r.what = .num) (h0 : r.lo ≤ n) (h1 : n ≤ r.hi) (hc : ∀ first words, f = .coded first words → n < first + words.length) :
 f.read (f.printN n) = some (.I n) ∧ valued (f.printN n) = true ∧ (f.printN n).length ≤ f.most ∧ f.printable n = true := by
 unfold Form.agrees at ha; rw [hw] at ha; cases f <;> simp only [Bool.and_eq_true, decide_eq_true_eq, beq_iff_eq] at ha
 case numeral lo hi =>
  obtain ⟨⟨⟨rfl, rfl⟩, h2⟩, h3⟩ := ha; refine ⟨?_, valued_itoa (by omega), itoa_short (by omega) (by omega), rfl⟩; show Option.map _ (above r.lo (parseUint (Lib.itoa n) r.hi)) = _
  rw [parseUint_itoa (by omega) h1 (by omega), above_ok h0]; rfl
 case coded first words =>
  obtain ⟨⟨⟨rfl, h2⟩, h3⟩, h4⟩ := ha; have hlt := hc _ _ rfl; obtain ⟨i, hi⟩ : ∃ i : Nat, n - r.lo = i := ⟨(n - r.lo).toNat, by omega⟩
  have hil : i < words.length := by omega
  have hp : (Form.coded r.lo words).printN n = words[i] := by
   simp only [Form.printN, hi]; simp [hil]
  have hv := List.all_eq_true.1 h3 words[i] (List.getElem_mem _); simp only [Bool.and_eq_true, decide_eq_true_eq] at hv; rw [hp]; refine ⟨?_, hv.1, hv.2, ?_⟩
  · show Option.map _ _ = _
    simp only [Form.readN]; rw [wordAt_get h2 hil]; simp; omega
  · simp only [Form.printable, Bool.and_eq_true, decide_eq_true_eq]; omega
 case priced =>
  have hp := price_shape (p := n) (by omega) (by omega); refine ⟨?_, hp.1, hp.2, by simp only [Form.printable]; simp; omega⟩; show Option.map _ (above 1 (parsePrice (priceOf n))) = _
  rw [parsePrice_priceOf (by omega) (by omega), above_ok (by omega)]; rfl
 case timed l =>
  obtain ⟨⟨rfl, h2⟩, h3⟩ := ha; have hn0 : 0 ≤ n := by omega
  have hn1 : n ≤ maxTime := Int.le_trans h1 h3; rw [printN_timed]; refine ⟨?_, valued_stamp n, ?_, ?_⟩
  · rw [read_timed, parseStamp_stampOf hn0 hn1, above_ok h0, Option.map_some]
  · rw [stamp_len]; exact Nat.le_refl _
  · unfold Form.printable; rw [decide_eq_true hn0, decide_eq_true hn1]; rfl
 case ordered =>
  have hms : maxSeq = 999999999 := rfl; by_cases hz : n = 0
  · subst hz; exact ⟨by decide, by decide, by decide, rfl⟩
  · rw [printN_ordered hz]; refine ⟨?_, valued_itoa (by omega), itoa_short (by omega) (by omega), rfl⟩; have hne : (Lib.itoa n == noneL) = false := by
     rw [Bool.eq_false_iff]; intro h; have h := eq_of_beq h; have := decDigits_all n.toNat; rw [← itoa_nat (by omega), h] at this
     revert this; decide
    rw [read_ordered hne, parseUint_itoa (by omega) (by omega) (by omega), above_ok (by omega), Option.map_some]
 all_goals (first | exact absurd ha (by simp) | (exfalso; revert ha; (first | decide | (split <;> simp_all))))
theorem date_range {n : Int} (h : (dayOf n).isSome = true) : 19700000 ≤ n ∧ n ≤ 99999999 := by
 unfold dayOf at h; simp only at h; split at h
 · cases h
 · omega
theorem date_most {n : Int} (h : (dayOf n).isSome = true) : n ≤ 99991231 := by
 unfold dayOf at h; simp only at h; split at h
 · cases h
 · rename_i hn
   have hm := aheadM_len (n / 10000) (n / 100 % 100) (by omega) (by omega); omega
theorem date_back {n : Int} (h : (dayOf n).isSome = true) : Form.date.read (Form.date.printN n) = some (.I n) ∧ valued (Form.date.printN n) = true ∧ (Form.date.printN n).length ≤ 15 := by
 obtain ⟨h0, h1⟩ := date_range h; have hm := date_most h; refine ⟨?_, valued_itoa (by omega), itoa_short (by omega) (by omega)⟩; show Option.map _ (dateIn (Lib.itoa n) (parseUint (Lib.itoa n) 99991231)) = _
 rw [parseUint_itoa (by omega) hm (by omega)]; have hl : (Lib.itoa n).length = 8 := by
  rw [itoa_nat (by omega), decDigits_inDigits (k := 7) (by omega) (by omega), inDigits_len]
 unfold dateIn; simp [hl, h]
theorem cell_back {m : Msg} {k : Nat} {r : Row} {f : Form} (hm : WT m) (hr : rows[k]? = some r) (hf : forms[k + 1]? = some f) (hfine : fine m (k + 1) r = true)
 (hne : r.what.ty = .S → there m (k + 1) = true) (hc : ∀ first words, f = .coded first words → gi m (k + 1) < first + words.length) :
 f.read (f.print (m.getD (k + 1) (.B false))) = some (m.getD (k + 1) (.B false)) ∧ valued (f.print (m.getD (k + 1) (.B false))) = true ∧ (f.print (m.getD (k + 1) (.B false))).length ≤ f.most ∧ f.may (m.getD (k + 1) (.B false)) = true := by
 obtain ⟨f', hf', ha⟩ := form_agrees hr; rw [hf] at hf'; obtain rfl := Option.some.inj hf'; have hty : tys[k + 1]? = some r.what.ty := by
  unfold tys; rw [List.getElem?_cons_succ, List.getElem?_map, hr]; rfl
 cases hwt : r.what.ty with
 | I =>
  rw [hwt] at hty; have hcell : m.getD (k + 1) (.B false) = .I (gi m (k + 1)) := by rw [List.getD_eq_getElem?_getD, hm.int hty]; rfl
  rw [hcell]; simp only [Form.print, Form.may]; by_cases hw : r.what = .num
  · unfold fine at hfine; rw [hw] at hfine; simp only [Bool.and_eq_true, decide_eq_true_eq] at hfine; exact num_back ha hw hfine.1 hfine.2 hc
  · have hw : r.what = .date := by
     revert hwt hw; cases r.what <;> simp [What.ty]
    have hfd : f = .date := by
     unfold Form.agrees at ha; rw [hw] at ha
     revert ha
     cases f <;> simp
    subst hfd; unfold fine at hfine; rw [hw] at hfine; obtain ⟨h1, h2, h3⟩ := date_back hfine; exact ⟨h1, h2, h3, rfl⟩
 | S =>
  rw [hwt] at hty; have hcell : m.getD (k + 1) (.B false) = .S (gs m (k + 1)) := by rw [List.getD_eq_getElem?_getD, hm.str hty]; rfl
  have hth := hne hwt; unfold there at hth; rw [hm.str hty] at hth; rw [hcell]; simp only [Form.print, Form.may]; have hne2 : gs m (k + 1) ≠ [] := by intro e; rw [e] at hth; simp at hth
  have hfp : ∃ p, f = .text p ∧ mayText p (gs m (k + 1)) = true := by
   unfold Form.agrees at ha; unfold fine at hfine
   revert ha hfine hwt
   cases r.what <;> cases f <;> simp [What.ty]
   all_goals (rename_i p; cases p <;> simp [mayText])
  obtain ⟨p, rfl, hmay⟩ := hfp; obtain ⟨h1, h2⟩ := mayText_shape hmay hne2; refine ⟨?_, h1, h2, trivial⟩; show (if _ then _ else _) = _
  rw [if_neg]; rw [hmay]; have : (gs m (k + 1)).isEmpty = false := by simpa using hth
  rw [this]; simp
 | B =>
  rw [hwt] at hty; have hcell : m.getD (k + 1) (.B false) = .B (gb m (k + 1)) := by rw [List.getD_eq_getElem?_getD, hm.bool hty]; rfl
  rw [hcell]; have hw : r.what = .truth := by
   revert hwt; cases r.what <;> simp [What.ty]
  have hff : f = .flag := by
   unfold Form.agrees at ha; rw [hw] at ha
   revert ha
   cases f <;> simp
  subst hff; unfold fine at hfine; rw [hw] at hfine; simp only at hfine; rw [hfine]; decide
end
end Go.Proofs.YtdmjinlgdkgoiaaGreatDoor
