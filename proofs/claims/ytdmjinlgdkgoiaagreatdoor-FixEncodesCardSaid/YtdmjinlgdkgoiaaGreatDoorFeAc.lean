/- Of the layer fix: MsgGet, EqMsg, MsgRow, MsgText, Ent, MsgHas, Open. -/
import Derived.Test.YtdmjinlgdkgoiaaGreatDoorFeAa
import Derived.Test.YtdmjinlgdkgoiaaGreatDoorFeAb
import Derived.KernelRfl
import Derived.Outline
import Derived.Test.YtdmjinlgdkgoiaaGreatDoorProg
import Derived.Laws.StructEq
import Derived.ChangeKeysEq
import Derived.Laws.EntriesVeiled
import Derived.Deep.RegionHeld3
import Derived.BigQuiet
import Derived.Lib.Hide
import Derived.Deep.QuietTactic
import Derived.Laws.Bits64b
import Derived.ProofKit
import Derived.ChangeSame
import Derived.ChangeSlices
import Derived.SizedLaws
import Derived.Test.YtdmjinlgdkgoiaaGreatDoorRows
set_option linter.unusedVariables false
set_option linter.unusedSimpArgs false
set_option maxRecDepth 100000
namespace Go.Proofs.YtdmjinlgdkgoiaaGreatDoor
section
open Go Go.RowKit
set_option maxHeartbeats 400000
def Cell.v : Cell → Value
 | .I n => .int .i64 n
 | .S s => .string ⟨s.toArray⟩
 | .B b => .bool b
def cellAt (m : Msg) (k : Nat) : Cell := m.getD k (.B false)
def msgV (m : Msg) : Array Value := (m.map Cell.v).toArray
theorem msgV_size {m : Msg} (h : WT m) : (msgV m).size = 42 := by simp [msgV, h.length]
theorem msgV_at {m : Msg} (h : WT m) {k : Nat} (hk : k < 42) : (msgV m)[k]? = some (cellAt m k).v := by
 have hl : k < m.length := by rw [h.length]; exact hk
 simp [msgV, cellAt, hl]
def Enters (g : Nat) : Prop := ∀ args w, (callFunc g args).run Tryz.prog w = .ok (.enter g args) w
structure Getter (g k : Nat) : Prop where
 enters : Enters g
 calls : ∀ m, WT m → ∀ w, Calls Tryz.prog g #[.agg (msgV m)] w fun e w' => e = .returned (cellAt m k).v ∧ Ext w w'
theorem eq_of_get {cs : Array Value} {k : Nat} {x : Value} (h : cs[k]? = some x) (hk : k < cs.size) : cs[k] = x := by
 rw [Array.getElem?_eq_getElem hk] at h; exact Option.some.inj h
theorem get1 : Getter 100 1 := by
 refine ⟨fun args w => by go_simp, fun m hm w => ?_⟩; have hs := msgV_size hm; have hx := msgV_at hm (k := 1) (by decide); generalize msgV m = cs at *; generalize (cellAt m 1).v = x at *; clear hm; go_enter Tryz.func100, Tryz.ntmps100
 go_wp2; go_ret; exact ⟨by simp [eq_of_get hx], (Ext.refl w).alloc _⟩
theorem get2 : Getter 102 2 := by
 refine ⟨fun args w => by go_simp, fun m hm w => ?_⟩; have hs := msgV_size hm; have hx := msgV_at hm (k := 2) (by decide); generalize msgV m = cs at *; generalize (cellAt m 2).v = x at *; clear hm; go_enter Tryz.func102, Tryz.ntmps102
 go_wp2; go_ret; exact ⟨by simp [eq_of_get hx], (Ext.refl w).alloc _⟩
theorem get3 : Getter 103 3 := by
 refine ⟨fun args w => by go_simp, fun m hm w => ?_⟩; have hs := msgV_size hm; have hx := msgV_at hm (k := 3) (by decide); generalize msgV m = cs at *; generalize (cellAt m 3).v = x at *; clear hm; go_enter Tryz.func103, Tryz.ntmps103
 go_wp2; go_ret; exact ⟨by simp [eq_of_get hx], (Ext.refl w).alloc _⟩
theorem get4 : Getter 105 4 := by
 refine ⟨fun args w => by go_simp, fun m hm w => ?_⟩; have hs := msgV_size hm; have hx := msgV_at hm (k := 4) (by decide); generalize msgV m = cs at *; generalize (cellAt m 4).v = x at *; clear hm; go_enter Tryz.func105, Tryz.ntmps105
 go_wp2; go_ret; exact ⟨by simp [eq_of_get hx], (Ext.refl w).alloc _⟩
theorem get5 : Getter 107 5 := by
 refine ⟨fun args w => by go_simp, fun m hm w => ?_⟩; have hs := msgV_size hm; have hx := msgV_at hm (k := 5) (by decide); generalize msgV m = cs at *; generalize (cellAt m 5).v = x at *; clear hm; go_enter Tryz.func107, Tryz.ntmps107
 go_wp2; go_ret; exact ⟨by simp [eq_of_get hx], (Ext.refl w).alloc _⟩
theorem get6 : Getter 109 6 := by
 refine ⟨fun args w => by go_simp, fun m hm w => ?_⟩; have hs := msgV_size hm; have hx := msgV_at hm (k := 6) (by decide); generalize msgV m = cs at *; generalize (cellAt m 6).v = x at *; clear hm; go_enter Tryz.func109, Tryz.ntmps109
 go_wp2; go_ret; exact ⟨by simp [eq_of_get hx], (Ext.refl w).alloc _⟩
theorem get7 : Getter 110 7 := by
 refine ⟨fun args w => by go_simp, fun m hm w => ?_⟩; have hs := msgV_size hm; have hx := msgV_at hm (k := 7) (by decide); generalize msgV m = cs at *; generalize (cellAt m 7).v = x at *; clear hm; go_enter Tryz.func110, Tryz.ntmps110
 go_wp2; go_ret; exact ⟨by simp [eq_of_get hx], (Ext.refl w).alloc _⟩
theorem get8 : Getter 111 8 := by
 refine ⟨fun args w => by go_simp, fun m hm w => ?_⟩; have hs := msgV_size hm; have hx := msgV_at hm (k := 8) (by decide); generalize msgV m = cs at *; generalize (cellAt m 8).v = x at *; clear hm; go_enter Tryz.func111, Tryz.ntmps111
 go_wp2; go_ret; exact ⟨by simp [eq_of_get hx], (Ext.refl w).alloc _⟩
theorem get9 : Getter 112 9 := by
 refine ⟨fun args w => by go_simp, fun m hm w => ?_⟩; have hs := msgV_size hm; have hx := msgV_at hm (k := 9) (by decide); generalize msgV m = cs at *; generalize (cellAt m 9).v = x at *; clear hm; go_enter Tryz.func112, Tryz.ntmps112
 go_wp2; go_ret; exact ⟨by simp [eq_of_get hx], (Ext.refl w).alloc _⟩
theorem get10 : Getter 114 10 := by
 refine ⟨fun args w => by go_simp, fun m hm w => ?_⟩; have hs := msgV_size hm; have hx := msgV_at hm (k := 10) (by decide); generalize msgV m = cs at *; generalize (cellAt m 10).v = x at *; clear hm; go_enter Tryz.func114, Tryz.ntmps114
 go_wp2; go_ret; exact ⟨by simp [eq_of_get hx], (Ext.refl w).alloc _⟩
theorem get11 : Getter 115 11 := by
 refine ⟨fun args w => by go_simp, fun m hm w => ?_⟩; have hs := msgV_size hm; have hx := msgV_at hm (k := 11) (by decide); generalize msgV m = cs at *; generalize (cellAt m 11).v = x at *; clear hm; go_enter Tryz.func115, Tryz.ntmps115
 go_wp2; go_ret; exact ⟨by simp [eq_of_get hx], (Ext.refl w).alloc _⟩
theorem get12 : Getter 116 12 := by
 refine ⟨fun args w => by go_simp, fun m hm w => ?_⟩; have hs := msgV_size hm; have hx := msgV_at hm (k := 12) (by decide); generalize msgV m = cs at *; generalize (cellAt m 12).v = x at *; clear hm; go_enter Tryz.func116, Tryz.ntmps116
 go_wp2; go_ret; exact ⟨by simp [eq_of_get hx], (Ext.refl w).alloc _⟩
theorem get13 : Getter 117 13 := by
 refine ⟨fun args w => by go_simp, fun m hm w => ?_⟩; have hs := msgV_size hm; have hx := msgV_at hm (k := 13) (by decide); generalize msgV m = cs at *; generalize (cellAt m 13).v = x at *; clear hm; go_enter Tryz.func117, Tryz.ntmps117
 go_wp2; go_ret; exact ⟨by simp [eq_of_get hx], (Ext.refl w).alloc _⟩
theorem get14 : Getter 118 14 := by
 refine ⟨fun args w => by go_simp, fun m hm w => ?_⟩; have hs := msgV_size hm; have hx := msgV_at hm (k := 14) (by decide); generalize msgV m = cs at *; generalize (cellAt m 14).v = x at *; clear hm; go_enter Tryz.func118, Tryz.ntmps118
 go_wp2; go_ret; exact ⟨by simp [eq_of_get hx], (Ext.refl w).alloc _⟩
theorem get15 : Getter 119 15 := by
 refine ⟨fun args w => by go_simp, fun m hm w => ?_⟩; have hs := msgV_size hm; have hx := msgV_at hm (k := 15) (by decide); generalize msgV m = cs at *; generalize (cellAt m 15).v = x at *; clear hm; go_enter Tryz.func119, Tryz.ntmps119
 go_wp2; go_ret; exact ⟨by simp [eq_of_get hx], (Ext.refl w).alloc _⟩
theorem get16 : Getter 120 16 := by
 refine ⟨fun args w => by go_simp, fun m hm w => ?_⟩; have hs := msgV_size hm; have hx := msgV_at hm (k := 16) (by decide); generalize msgV m = cs at *; generalize (cellAt m 16).v = x at *; clear hm; go_enter Tryz.func120, Tryz.ntmps120
 go_wp2; go_ret; exact ⟨by simp [eq_of_get hx], (Ext.refl w).alloc _⟩
theorem get17 : Getter 121 17 := by
 refine ⟨fun args w => by go_simp, fun m hm w => ?_⟩; have hs := msgV_size hm; have hx := msgV_at hm (k := 17) (by decide); generalize msgV m = cs at *; generalize (cellAt m 17).v = x at *; clear hm; go_enter Tryz.func121, Tryz.ntmps121
 go_wp2; go_ret; exact ⟨by simp [eq_of_get hx], (Ext.refl w).alloc _⟩
theorem get18 : Getter 122 18 := by
 refine ⟨fun args w => by go_simp, fun m hm w => ?_⟩; have hs := msgV_size hm; have hx := msgV_at hm (k := 18) (by decide); generalize msgV m = cs at *; generalize (cellAt m 18).v = x at *; clear hm; go_enter Tryz.func122, Tryz.ntmps122
 go_wp2; go_ret; exact ⟨by simp [eq_of_get hx], (Ext.refl w).alloc _⟩
theorem get19 : Getter 124 19 := by
 refine ⟨fun args w => by go_simp, fun m hm w => ?_⟩; have hs := msgV_size hm; have hx := msgV_at hm (k := 19) (by decide); generalize msgV m = cs at *; generalize (cellAt m 19).v = x at *; clear hm; go_enter Tryz.func124, Tryz.ntmps124
 go_wp2; go_ret; exact ⟨by simp [eq_of_get hx], (Ext.refl w).alloc _⟩
theorem get20 : Getter 126 20 := by
 refine ⟨fun args w => by go_simp, fun m hm w => ?_⟩; have hs := msgV_size hm; have hx := msgV_at hm (k := 20) (by decide); generalize msgV m = cs at *; generalize (cellAt m 20).v = x at *; clear hm; go_enter Tryz.func126, Tryz.ntmps126
 go_wp2; go_ret; exact ⟨by simp [eq_of_get hx], (Ext.refl w).alloc _⟩
theorem get21 : Getter 127 21 := by
 refine ⟨fun args w => by go_simp, fun m hm w => ?_⟩; have hs := msgV_size hm; have hx := msgV_at hm (k := 21) (by decide); generalize msgV m = cs at *; generalize (cellAt m 21).v = x at *; clear hm; go_enter Tryz.func127, Tryz.ntmps127
 go_wp2; go_ret; exact ⟨by simp [eq_of_get hx], (Ext.refl w).alloc _⟩
theorem get22 : Getter 128 22 := by
 refine ⟨fun args w => by go_simp, fun m hm w => ?_⟩; have hs := msgV_size hm; have hx := msgV_at hm (k := 22) (by decide); generalize msgV m = cs at *; generalize (cellAt m 22).v = x at *; clear hm; go_enter Tryz.func128, Tryz.ntmps128
 go_wp2; go_ret; exact ⟨by simp [eq_of_get hx], (Ext.refl w).alloc _⟩
theorem get23 : Getter 130 23 := by
 refine ⟨fun args w => by go_simp, fun m hm w => ?_⟩; have hs := msgV_size hm; have hx := msgV_at hm (k := 23) (by decide); generalize msgV m = cs at *; generalize (cellAt m 23).v = x at *; clear hm; go_enter Tryz.func130, Tryz.ntmps130
 go_wp2; go_ret; exact ⟨by simp [eq_of_get hx], (Ext.refl w).alloc _⟩
theorem get24 : Getter 131 24 := by
 refine ⟨fun args w => by go_simp, fun m hm w => ?_⟩; have hs := msgV_size hm; have hx := msgV_at hm (k := 24) (by decide); generalize msgV m = cs at *; generalize (cellAt m 24).v = x at *; clear hm; go_enter Tryz.func131, Tryz.ntmps131
 go_wp2; go_ret; exact ⟨by simp [eq_of_get hx], (Ext.refl w).alloc _⟩
theorem get25 : Getter 132 25 := by
 refine ⟨fun args w => by go_simp, fun m hm w => ?_⟩; have hs := msgV_size hm; have hx := msgV_at hm (k := 25) (by decide); generalize msgV m = cs at *; generalize (cellAt m 25).v = x at *; clear hm; go_enter Tryz.func132, Tryz.ntmps132
 go_wp2; go_ret; exact ⟨by simp [eq_of_get hx], (Ext.refl w).alloc _⟩
theorem get26 : Getter 133 26 := by
 refine ⟨fun args w => by go_simp, fun m hm w => ?_⟩; have hs := msgV_size hm; have hx := msgV_at hm (k := 26) (by decide); generalize msgV m = cs at *; generalize (cellAt m 26).v = x at *; clear hm; go_enter Tryz.func133, Tryz.ntmps133
 go_wp2; go_ret; exact ⟨by simp [eq_of_get hx], (Ext.refl w).alloc _⟩
theorem get27 : Getter 134 27 := by
 refine ⟨fun args w => by go_simp, fun m hm w => ?_⟩; have hs := msgV_size hm; have hx := msgV_at hm (k := 27) (by decide); generalize msgV m = cs at *; generalize (cellAt m 27).v = x at *; clear hm; go_enter Tryz.func134, Tryz.ntmps134
 go_wp2; go_ret; exact ⟨by simp [eq_of_get hx], (Ext.refl w).alloc _⟩
theorem get28 : Getter 135 28 := by
 refine ⟨fun args w => by go_simp, fun m hm w => ?_⟩; have hs := msgV_size hm; have hx := msgV_at hm (k := 28) (by decide); generalize msgV m = cs at *; generalize (cellAt m 28).v = x at *; clear hm; go_enter Tryz.func135, Tryz.ntmps135
 go_wp2; go_ret; exact ⟨by simp [eq_of_get hx], (Ext.refl w).alloc _⟩
theorem get29 : Getter 136 29 := by
 refine ⟨fun args w => by go_simp, fun m hm w => ?_⟩; have hs := msgV_size hm; have hx := msgV_at hm (k := 29) (by decide); generalize msgV m = cs at *; generalize (cellAt m 29).v = x at *; clear hm; go_enter Tryz.func136, Tryz.ntmps136
 go_wp2; go_ret; exact ⟨by simp [eq_of_get hx], (Ext.refl w).alloc _⟩
theorem get30 : Getter 137 30 := by
 refine ⟨fun args w => by go_simp, fun m hm w => ?_⟩; have hs := msgV_size hm; have hx := msgV_at hm (k := 30) (by decide); generalize msgV m = cs at *; generalize (cellAt m 30).v = x at *; clear hm; go_enter Tryz.func137, Tryz.ntmps137
 go_wp2; go_ret; exact ⟨by simp [eq_of_get hx], (Ext.refl w).alloc _⟩
theorem get31 : Getter 96 31 := by
 refine ⟨fun args w => by go_simp, fun m hm w => ?_⟩; have hs := msgV_size hm; have hx := msgV_at hm (k := 31) (by decide); generalize msgV m = cs at *; generalize (cellAt m 31).v = x at *; clear hm; go_enter Tryz.func96, Tryz.ntmps96
 go_wp2; go_ret; exact ⟨by simp [eq_of_get hx], (Ext.refl w).alloc _⟩
theorem get32 : Getter 138 32 := by
 refine ⟨fun args w => by go_simp, fun m hm w => ?_⟩; have hs := msgV_size hm; have hx := msgV_at hm (k := 32) (by decide); generalize msgV m = cs at *; generalize (cellAt m 32).v = x at *; clear hm; go_enter Tryz.func138, Tryz.ntmps138
 go_wp2; go_ret; exact ⟨by simp [eq_of_get hx], (Ext.refl w).alloc _⟩
theorem get33 : Getter 139 33 := by
 refine ⟨fun args w => by go_simp, fun m hm w => ?_⟩; have hs := msgV_size hm; have hx := msgV_at hm (k := 33) (by decide); generalize msgV m = cs at *; generalize (cellAt m 33).v = x at *; clear hm; go_enter Tryz.func139, Tryz.ntmps139
 go_wp2; go_ret; exact ⟨by simp [eq_of_get hx], (Ext.refl w).alloc _⟩
theorem get34 : Getter 140 34 := by
 refine ⟨fun args w => by go_simp, fun m hm w => ?_⟩; have hs := msgV_size hm; have hx := msgV_at hm (k := 34) (by decide); generalize msgV m = cs at *; generalize (cellAt m 34).v = x at *; clear hm; go_enter Tryz.func140, Tryz.ntmps140
 go_wp2; go_ret; exact ⟨by simp [eq_of_get hx], (Ext.refl w).alloc _⟩
theorem get35 : Getter 141 35 := by
 refine ⟨fun args w => by go_simp, fun m hm w => ?_⟩; have hs := msgV_size hm; have hx := msgV_at hm (k := 35) (by decide); generalize msgV m = cs at *; generalize (cellAt m 35).v = x at *; clear hm; go_enter Tryz.func141, Tryz.ntmps141
 go_wp2; go_ret; exact ⟨by simp [eq_of_get hx], (Ext.refl w).alloc _⟩
theorem get36 : Getter 142 36 := by
 refine ⟨fun args w => by go_simp, fun m hm w => ?_⟩; have hs := msgV_size hm; have hx := msgV_at hm (k := 36) (by decide); generalize msgV m = cs at *; generalize (cellAt m 36).v = x at *; clear hm; go_enter Tryz.func142, Tryz.ntmps142
 go_wp2; go_ret; exact ⟨by simp [eq_of_get hx], (Ext.refl w).alloc _⟩
theorem get37 : Getter 143 37 := by
 refine ⟨fun args w => by go_simp, fun m hm w => ?_⟩; have hs := msgV_size hm; have hx := msgV_at hm (k := 37) (by decide); generalize msgV m = cs at *; generalize (cellAt m 37).v = x at *; clear hm; go_enter Tryz.func143, Tryz.ntmps143
 go_wp2; go_ret; exact ⟨by simp [eq_of_get hx], (Ext.refl w).alloc _⟩
theorem get38 : Getter 144 38 := by
 refine ⟨fun args w => by go_simp, fun m hm w => ?_⟩; have hs := msgV_size hm; have hx := msgV_at hm (k := 38) (by decide); generalize msgV m = cs at *; generalize (cellAt m 38).v = x at *; clear hm; go_enter Tryz.func144, Tryz.ntmps144
 go_wp2; go_ret; exact ⟨by simp [eq_of_get hx], (Ext.refl w).alloc _⟩
theorem get39 : Getter 145 39 := by
 refine ⟨fun args w => by go_simp, fun m hm w => ?_⟩; have hs := msgV_size hm; have hx := msgV_at hm (k := 39) (by decide); generalize msgV m = cs at *; generalize (cellAt m 39).v = x at *; clear hm; go_enter Tryz.func145, Tryz.ntmps145
 go_wp2; go_ret; exact ⟨by simp [eq_of_get hx], (Ext.refl w).alloc _⟩
theorem get40 : Getter 146 40 := by
 refine ⟨fun args w => by go_simp, fun m hm w => ?_⟩; have hs := msgV_size hm; have hx := msgV_at hm (k := 40) (by decide); generalize msgV m = cs at *; generalize (cellAt m 40).v = x at *; clear hm; go_enter Tryz.func146, Tryz.ntmps146
 go_wp2; go_ret; exact ⟨by simp [eq_of_get hx], (Ext.refl w).alloc _⟩
theorem get41 : Getter 147 41 := by
 refine ⟨fun args w => by go_simp, fun m hm w => ?_⟩; have hs := msgV_size hm; have hx := msgV_at hm (k := 41) (by decide); generalize msgV m = cs at *; generalize (cellAt m 41).v = x at *; clear hm; go_enter Tryz.func147, Tryz.ntmps147
 go_wp2; go_ret; exact ⟨by simp [eq_of_get hx], (Ext.refl w).alloc _⟩
end
section
open Go Go.RowKit
set_option maxHeartbeats 3200000
noncomputable def fieldFits (f : Field) : Bool := Tryz.prog.plainKey f.type && match Tryz.prog.underlying f.type, tys[f.offset]? with
 | some (.int _), some .I => true
 | some .string, some .S => true
 | some .bool, some .B => true
 | _, _ => false
theorem fields_fit : ((Tryz.prog.fieldsOf 23).toList.all fieldFits) = true := by kernel_rfl
theorem eqFields_same {m : Msg} (hm : WT m) (d : Nat) (w : World) : ∀ fs : List Field, (fs.all fieldFits) = true → (Op.eqFields (d + 1) (msgV m) (msgV m) fs).run Tryz.prog w = .ok true w
 | [], _ => by simp [Op.eqFields]
 | f :: fs, h => by
  rw [List.all_cons, Bool.and_eq_true] at h; have ih := eqFields_same hm d w fs h.2; have hf := h.1; unfold fieldFits at hf; rw [Bool.and_eq_true] at hf; obtain ⟨hp, hf⟩ := hf; have hv : (msgV m)[f.offset]? = (m[f.offset]?).map Cell.v := by unfold msgV; simp
  have ht : (m[f.offset]?).map Cell.ty = tys[f.offset]? := by rw [← hm.1]; simp
  have key : ∀ v, (msgV m)[f.offset]? = some v → (∀ w', (Op.equalIn (d + 1) f.type v v).run Tryz.prog w' = .ok true w') → (Op.eqFields (d + 1) (msgV m) (msgV m) (f :: fs)).run Tryz.prog w = .ok true w := by
   intro v h1 h2; unfold Op.eqFields; split
   · simp only [Sem.run_bind, run_part_plain w hp h1, Result.andThen_ok, h2, Bool.not_true, Bool.false_eq_true, if_false]; exact ih
   · exact ih
  cases hc : m[f.offset]? with
  | none =>
   rw [hc] at ht; rw [← ht] at hf; split at hf <;> simp_all
  | some c =>
   rw [hc] at ht hv; refine key c.v hv (fun w' => ?_); rw [← ht] at hf; split at hf
   · rename_i k hu e
     cases c <;> simp [Cell.ty] at e
     exact (run_equalIn_int w' d f.type .i64 k _ _ hu).trans (by simp)
   · rename_i hu e
     cases c <;> simp [Cell.ty] at e
     exact (run_equalIn_string w' d f.type _ _ hu).trans (by simp)
   · rename_i hu e
     cases c <;> simp [Cell.ty] at e
     exact (run_equalIn_bool' w' d f.type _ _ hu).trans (by simp)
   · cases hf
theorem eqMsg {m : Msg} (hm : WT m) (w : World) : (binOp .eql 23 (.agg (msgV m)) (.agg (msgV m))).run Tryz.prog w = .ok (.bool true) w := by
 rw [run_eql_struct, run_equalIn_agg w 9999 23 _ _ (by kernel_rfl) (by kernel_rfl), eqFields_same hm 9998 w _ fields_fit]; rfl
end
section
open Go Go.RowKit
set_option maxHeartbeats 400000
theorem loadVarMsg (a : Addr) : loadVar 23 a = loadRow 23 a := rfl
theorem loadRowMsg (w : World) (g : Nat) (h : (rowOf w g).size = 42) : (loadRow 23 ⟨g, 0, none⟩).run Tryz.prog w = .ok (.agg (rowOf w g)) w :=
 run_loadRow (n := 41) Tryz.underlying23 rfl (by kernel_rfl) h
attribute [local go_sem ↓] loadVarMsg
attribute [local go_sem] loadRowMsg rowOf_new rowOf_old rowOf_drew
def FnMsg (w : World) (f : Value) (g : Msg → Bool) : Prop :=
 ∃ fid caps, f = .func (.func fid) #[] caps ∧ Enters fid ∧ ∀ w', Ext w w' → ∀ m, WT m → Calls Tryz.prog fid (#[.agg (msgV m)] ++ caps) w' fun e w'' => e = .returned (.bool (g m)) ∧ Ext w' w''
theorem FnMsg.ext {w w1 : World} {f : Value} {g : Msg → Bool} (h : FnMsg w f g) (hE : Ext w w1) : FnMsg w1 f g := by
 obtain ⟨fid, caps, e, h1, h2⟩ := h; exact ⟨fid, caps, e, h1, fun w' hw' m hm => h2 w' (hE.trans hw') m hm⟩
structure FnStr (f : Nat) (g : List UInt8 → Bool) : Prop where
 enters : Enters f
 calls : ∀ (s : List UInt8) (w : World), s.length ≤ 140737488355328 → Calls Tryz.prog f #[.string ⟨s.toArray⟩] w fun e w' => e = .returned (.bool (g s)) ∧ Ext w w'
structure Returns (e : Ending) (p : Value → Prop) : Prop where
 is : ∃ v, e = .returned v ∧ p v
structure IsRow (w : World) (v : Value) (num : Int) (th fi : Msg → Bool) (zero : Bool) (must may : Nat) : Prop where
 is : ∃ a b, v = .agg #[.int .i64 num, a, b, .bool zero, .int .u32 must, .int .u32 may] ∧ FnMsg w a th ∧ FnMsg w b fi
theorem IsRow.ext {w w1 : World} {v : Value} {num : Int} {th fi : Msg → Bool} {zero : Bool} {must may : Nat} (h : IsRow w v num th fi zero must may) (hE : Ext w w1) : IsRow w1 v num th fi zero must may := by
 obtain ⟨a, b, e, h1, h2⟩ := h.is; exact ⟨a, b, e, h1.ext hE, h2.ext hE⟩
theorem cellAt_int {m : Msg} (h : WT m) {k : Nat} (hk : tys[k]? = some .I) : (cellAt m k).v = .int .i64 (gi m k) := by
 simp [cellAt, h.int hk, Cell.v]
theorem cellAt_str {m : Msg} (h : WT m) {k : Nat} (hk : tys[k]? = some .S) : (cellAt m k).v = .string ⟨(gs m k).toArray⟩ := by
 simp [cellAt, h.str hk, Cell.v]
theorem cellAt_bool {m : Msg} (h : WT m) {k : Nat} (hk : tys[k]? = some .B) : (cellAt m k).v = .bool (gb m k) := by
 simp [cellAt, h.bool hk, Cell.v]
theorem there_int {m : Msg} (h : WT m) {k : Nat} (hk : tys[k]? = some .I) : there m k = (gi m k != 0) := by
 simp [there, h.int hk]
theorem there_str {m : Msg} (h : WT m) {k : Nat} (hk : tys[k]? = some .S) : there m k = !(gs m k).isEmpty := by
 simp [there, h.str hk]
theorem there_bool {m : Msg} (h : WT m) {k : Nat} (hk : tys[k]? = some .B) : there m k = gb m k := by
 simp [there, h.bool hk]
theorem num1 (g k b : Nat) (hk : tys[k]? = some .I) (hg : Getter g k) (m : Msg) (hm : WT m) (w : World) (ha : w.cell? ⟨b, 0, none⟩ = some (.func (.func g) #[] #[])) :
 Calls Tryz.prog 220 #[.agg (msgV m), .pointer (some ⟨b, 0, none⟩)] w fun e w' => e = .returned (.bool (there m k)) ∧ Ext w w' := by
 rw [there_int hm hk]; have hv := cellAt_int hm hk; have hs := msgV_size hm; have hb := lt_of_cell ha; have he := hg.enters; have hc := fun w => hg.calls m hm w
 rw [hv] at hc; have HC := Lib.hid hc; clear hc hg hv; generalize msgV m = cs at *; generalize gi m k = x at *; clear hm; unfold Enters at he; go_enter Tryz.func220, Tryz.ntmps220
 go_wp2_with (first | (refine (HC.out _).mono ?_; rintro e w1 ⟨rfl, hE⟩)); go_ret; refine ⟨rfl, ?_⟩; exact ((Ext.refl _).alloc _).trans hE
theorem num2 (g k b c d : Nat) (lo up : Int) (hk : tys[k]? = some .I) (hg : Getter g k) (m : Msg) (hm : WT m) (w : World) (ha : w.cell? ⟨b, 0, none⟩ = some (.func (.func g) #[] #[]))
 (hl : w.cell? ⟨c, 0, none⟩ = some (.int .i64 lo)) (hh : w.cell? ⟨d, 0, none⟩ = some (.int .i64 up)) :
 Calls Tryz.prog 221 #[.agg (msgV m), .pointer (some ⟨b, 0, none⟩), .pointer (some ⟨c, 0, none⟩), .pointer (some ⟨d, 0, none⟩)] w fun e w' =>
  e = .returned (.bool (decide (lo ≤ gi m k) && decide (gi m k ≤ up))) ∧ Ext w w' := by
 have hv := cellAt_int hm hk; have hs := msgV_size hm; have hb := lt_of_cell ha; have he := hg.enters; have hc := fun w => hg.calls m hm w
 rw [hv] at hc; have HC := Lib.hid hc; clear hc hg hv; generalize msgV m = cs at *; generalize gi m k = x at *; clear hm; unfold Enters at he; by_cases h1 : lo ≤ x
 · skip
   go_enter Tryz.func221, Tryz.ntmps221
   go_wp2_with fail; refine wp_region_steps (fun _ => by kernel_rfl) [.is (.func (.func g) #[] #[]), .is (.agg cs), .is (.int .i64 x), .is (.int .i64 lo), .is (.bool true), .is (.bool true), .is (.func (.func g) #[] #[]), .is (.agg cs), .is (.int .i64 x), .is (.int .i64 up), .is (.bool (decide (x ≤ up))), .is (.bool (decide (x ≤ up))), .is (.bool (decide (x ≤ up)))] (by kernel_rfl) ?_ ?_
   · refine And.intro ?_ (And.intro ?_ (And.intro ?_ (And.intro ?_ (And.intro ?_ (And.intro ?_ (And.intro ?_ (And.intro ?_ (And.intro ?_ (And.intro ?_ (And.intro ?_ (And.intro ?_ (And.intro ?_ (True.intro)))))))))))))
     · intro ρ w' hE hB hD; have m0 := (((Ext.refl _).alloc _).trans hE).cell ha; have m1 := (((Ext.refl _).alloc _).trans hE).cell hl; have m2 := (((Ext.refl _).alloc _).trans hE).cell hh; have m3 : rowOf w' w.heap.size = cs := by rw [Ext.rowOf hE (by simp)]; exact rowOf_new _ _ _ _
       have e1 : ρ (.tmp 1) = _ := hB (.tmp 1) rfl; clear hB hD; refine .inl ⟨rfl, ?_⟩; unfold Gives; go_simp; first | done | exact xr0 | exact xr1
     · intro ρ w' hE hB hD; have m0 := (((Ext.refl _).alloc _).trans hE).cell ha; have m1 := (((Ext.refl _).alloc _).trans hE).cell hl; have m2 := (((Ext.refl _).alloc _).trans hE).cell hh; have m3 : rowOf w' w.heap.size = cs := by rw [Ext.rowOf hE (by simp)]; exact rowOf_new _ _ _ _
       have e4 : ρ (.tmp 4) = _ := hB (.tmp 4) rfl; clear hB hD; refine .inl ⟨rfl, ?_⟩; unfold Gives; go_simp; first | done | exact xr0 | exact xr1
     · intro ρ w' hE hB hD; have e6 : ρ (.tmp 6) = .func (.func g) #[] #[] := hD 0 6 rfl rfl; have e7 : ρ (.tmp 7) = .agg cs := hD 1 7 rfl rfl; clear hB hD; refine .inl ⟨rfl, ?_⟩; unfold Gives; go_simp; refine (HC.out _).mono ?_; rintro e w1 ⟨rfl, hE1⟩; first | exact hE1 | exact ⟨rfl, hE1⟩ | exact ⟨_, rfl, hE1, rfl⟩
     · intro ρ w' hE hB hD; have m0 := (((Ext.refl _).alloc _).trans hE).cell ha; have m1 := (((Ext.refl _).alloc _).trans hE).cell hl; have m2 := (((Ext.refl _).alloc _).trans hE).cell hh; have m3 : rowOf w' w.heap.size = cs := by rw [Ext.rowOf hE (by simp)]; exact rowOf_new _ _ _ _
       have e2 : ρ (.tmp 2) = _ := hB (.tmp 2) rfl; clear hB hD; refine .inl ⟨rfl, ?_⟩; unfold Gives; go_simp; first | done | exact xr0 | exact xr1
     · intro ρ w' hE hB hD; have e8 : ρ (.tmp 8) = .int .i64 x := hD 2 8 rfl rfl; have e9 : ρ (.tmp 9) = .int .i64 lo := hD 3 9 rfl rfl; clear hB hD; refine .inl ⟨rfl, ?_⟩; unfold Gives; go_simp; first | done | exact xr0 | exact xr1
     · intro ρ w' hE hB hD; have e10 : ρ (.tmp 10) = .bool true := hD 4 10 rfl rfl; clear hB hD; refine .inl ⟨rfl, ?_⟩; unfold Gives; go_simp; first | done | exact xr0 | exact xr1
     · intro ρ w' hE hB hD; have m0 := (((Ext.refl _).alloc _).trans hE).cell ha; have m1 := (((Ext.refl _).alloc _).trans hE).cell hl; have m2 := (((Ext.refl _).alloc _).trans hE).cell hh; have m3 : rowOf w' w.heap.size = cs := by rw [Ext.rowOf hE (by simp)]; exact rowOf_new _ _ _ _
       have e1 : ρ (.tmp 1) = _ := hB (.tmp 1) rfl; have e11 : ρ (.tmp 11) = .bool true := hD 5 11 rfl rfl; clear hB hD; refine .inl ⟨by simp [wantedBy, e11], ?_⟩; unfold Gives; go_simp; first | done | exact xr0 | exact xr1
     · intro ρ w' hE hB hD; have m0 := (((Ext.refl _).alloc _).trans hE).cell ha; have m1 := (((Ext.refl _).alloc _).trans hE).cell hl; have m2 := (((Ext.refl _).alloc _).trans hE).cell hh; have m3 : rowOf w' w.heap.size = cs := by rw [Ext.rowOf hE (by simp)]; exact rowOf_new _ _ _ _
       have e4 : ρ (.tmp 4) = _ := hB (.tmp 4) rfl; have e11 : ρ (.tmp 11) = .bool true := hD 5 11 rfl rfl; clear hB hD; refine .inl ⟨by simp [wantedBy, e11], ?_⟩; unfold Gives; go_simp; first | done | exact xr0 | exact xr1
     · intro ρ w' hE hB hD; have e11 : ρ (.tmp 11) = .bool true := hD 5 11 rfl rfl; have e12 : ρ (.tmp 12) = .func (.func g) #[] #[] := hD 6 12 rfl rfl; have e13 : ρ (.tmp 13) = .agg cs := hD 7 13 rfl rfl; clear hB hD; refine .inl ⟨by simp [wantedBy, e11], ?_⟩; unfold Gives; go_simp; refine (HC.out _).mono ?_; rintro e w1 ⟨rfl, hE1⟩; first | exact hE1 | exact ⟨rfl, hE1⟩ | exact ⟨_, rfl, hE1, rfl⟩
     · intro ρ w' hE hB hD; have m0 := (((Ext.refl _).alloc _).trans hE).cell ha; have m1 := (((Ext.refl _).alloc _).trans hE).cell hl; have m2 := (((Ext.refl _).alloc _).trans hE).cell hh; have m3 : rowOf w' w.heap.size = cs := by rw [Ext.rowOf hE (by simp)]; exact rowOf_new _ _ _ _
       have e3 : ρ (.tmp 3) = _ := hB (.tmp 3) rfl; have e11 : ρ (.tmp 11) = .bool true := hD 5 11 rfl rfl; clear hB hD; refine .inl ⟨by simp [wantedBy, e11], ?_⟩; unfold Gives; go_simp; first | done | exact xr0 | exact xr1
     · intro ρ w' hE hB hD; have e11 : ρ (.tmp 11) = .bool true := hD 5 11 rfl rfl; have e14 : ρ (.tmp 14) = .int .i64 x := hD 8 14 rfl rfl; have e15 : ρ (.tmp 15) = .int .i64 up := hD 9 15 rfl rfl; clear hB hD; refine .inl ⟨by simp [wantedBy, e11], ?_⟩; unfold Gives; go_simp; first | done | exact xr0 | exact xr1
     · intro ρ w' hE hB hD; have ec := ctK hB
       have e11 : ρ (.tmp 11) = .bool true := hD 5 11 rfl rfl; have e16 : ρ (.tmp 16) = .bool (decide (x ≤ up)) := hD 10 16 rfl rfl; clear hB hD; refine .inl ⟨rfl, ?_⟩; unfold Gives; go_simp; first | done | exact xr0 | exact xr1
     · intro ρ w' hE hB hD; have e17 : ρ (.tmp 17) = .bool (decide (x ≤ up)) := hD 11 17 rfl rfl; clear hB hD; refine .inl ⟨rfl, ?_⟩; unfold Gives; go_simp; first | done | exact xr0 | exact xr1
   · intro a' w1 hE1 hd' hs' hB' hP'; have ha' := act_of_posts [(6, .func (.func g) #[] #[]), (7, .agg cs), (8, .int .i64 x), (9, .int .i64 lo), (10, .bool true), (11, .bool true), (12, .func (.func g) #[] #[]), (13, .agg cs), (14, .int .i64 x), (15, .int .i64 up), (16, .bool (decide (x ≤ up))), (17, .bool (decide (x ≤ up))), (5, .bool (decide (x ≤ up)))] hd' hs' hB' (by simp) (by kernel_rfl) (by
      intro p hp; simp only [List.mem_cons, List.mem_nil_iff, or_false] at hp
      rcases hp with rfl | rfl | rfl | rfl | rfl | rfl | rfl | rfl | rfl | rfl | rfl | rfl | rfl
      · exact hP' 0 6 rfl
      · exact hP' 1 7 rfl
      · exact hP' 2 8 rfl
      · exact hP' 3 9 rfl
      · exact hP' 4 10 rfl
      · exact hP' 5 11 rfl
      · exact hP' 6 12 rfl
      · exact hP' 7 13 rfl
      · exact hP' 8 14 rfl
      · exact hP' 9 15 rfl
      · exact hP' 10 16 rfl
      · exact hP' 11 17 rfl
      · exact hP' 12 5 rfl)
     clear hB' hP' hs' hd'; simp only [List.foldl_cons, List.foldl_nil, List.setIfInBounds_toArray, List.set_cons_succ, List.set_cons_zero] at ha'; subst ha'; go_wp2; go_ret; exact ⟨by simp [h1], ((Ext.refl _).alloc _).trans hE1⟩
 · have h1f : decide (lo ≤ x) = false := by simpa using h1
   go_enter Tryz.func221, Tryz.ntmps221
   go_wp2_with fail; refine wp_region_steps (fun _ => by kernel_rfl) [.is (.func (.func g) #[] #[]), .is (.agg cs), .is (.int .i64 x), .is (.int .i64 lo), .is (.bool false), .is (.bool false), .is (undef), .is (undef), .is (undef), .is (undef), .is (undef), .is (.bool false), .is (.bool false)] (by kernel_rfl) ?_ ?_
   · refine And.intro ?_ (And.intro ?_ (And.intro ?_ (And.intro ?_ (And.intro ?_ (And.intro ?_ (And.intro ?_ (And.intro ?_ (And.intro ?_ (And.intro ?_ (And.intro ?_ (And.intro ?_ (And.intro ?_ (True.intro)))))))))))))
     · intro ρ w' hE hB hD; have m0 := (((Ext.refl _).alloc _).trans hE).cell ha; have m1 := (((Ext.refl _).alloc _).trans hE).cell hl; have m2 := (((Ext.refl _).alloc _).trans hE).cell hh; have m3 : rowOf w' w.heap.size = cs := by rw [Ext.rowOf hE (by simp)]; exact rowOf_new _ _ _ _
       have e1 : ρ (.tmp 1) = _ := hB (.tmp 1) rfl; clear hB hD; refine .inl ⟨rfl, ?_⟩; unfold Gives; go_simp; first | done | exact xr0 | exact xr1
     · intro ρ w' hE hB hD; have m0 := (((Ext.refl _).alloc _).trans hE).cell ha; have m1 := (((Ext.refl _).alloc _).trans hE).cell hl; have m2 := (((Ext.refl _).alloc _).trans hE).cell hh; have m3 : rowOf w' w.heap.size = cs := by rw [Ext.rowOf hE (by simp)]; exact rowOf_new _ _ _ _
       have e4 : ρ (.tmp 4) = _ := hB (.tmp 4) rfl; clear hB hD; refine .inl ⟨rfl, ?_⟩; unfold Gives; go_simp; first | done | exact xr0 | exact xr1
     · intro ρ w' hE hB hD; have e6 : ρ (.tmp 6) = .func (.func g) #[] #[] := hD 0 6 rfl rfl; have e7 : ρ (.tmp 7) = .agg cs := hD 1 7 rfl rfl; clear hB hD; refine .inl ⟨rfl, ?_⟩; unfold Gives; go_simp; refine (HC.out _).mono ?_; rintro e w1 ⟨rfl, hE1⟩; first | exact hE1 | exact ⟨rfl, hE1⟩ | exact ⟨_, rfl, hE1, rfl⟩
     · intro ρ w' hE hB hD; have m0 := (((Ext.refl _).alloc _).trans hE).cell ha; have m1 := (((Ext.refl _).alloc _).trans hE).cell hl; have m2 := (((Ext.refl _).alloc _).trans hE).cell hh; have m3 : rowOf w' w.heap.size = cs := by rw [Ext.rowOf hE (by simp)]; exact rowOf_new _ _ _ _
       have e2 : ρ (.tmp 2) = _ := hB (.tmp 2) rfl; clear hB hD; refine .inl ⟨rfl, ?_⟩; unfold Gives; go_simp; first | done | exact xr0 | exact xr1
     · intro ρ w' hE hB hD; have e8 : ρ (.tmp 8) = .int .i64 x := hD 2 8 rfl rfl; have e9 : ρ (.tmp 9) = .int .i64 lo := hD 3 9 rfl rfl; clear hB hD; refine .inl ⟨rfl, ?_⟩; unfold Gives; go_simp; first | done | exact xr0 | exact xr1
     · intro ρ w' hE hB hD; have e10 : ρ (.tmp 10) = .bool false := hD 4 10 rfl rfl; clear hB hD; refine .inl ⟨rfl, ?_⟩; unfold Gives; go_simp; first | done | exact xr0 | exact xr1
     · intro ρ w' hE hB hD; have m0 := (((Ext.refl _).alloc _).trans hE).cell ha; have m1 := (((Ext.refl _).alloc _).trans hE).cell hl; have m2 := (((Ext.refl _).alloc _).trans hE).cell hh; have m3 : rowOf w' w.heap.size = cs := by rw [Ext.rowOf hE (by simp)]; exact rowOf_new _ _ _ _
       have e1 : ρ (.tmp 1) = _ := hB (.tmp 1) rfl; have e11 : ρ (.tmp 11) = .bool false := hD 5 11 rfl rfl; clear hB hD; exact .inr ⟨by simp [wantedBy, e11], rfl⟩
     · intro ρ w' hE hB hD; have m0 := (((Ext.refl _).alloc _).trans hE).cell ha; have m1 := (((Ext.refl _).alloc _).trans hE).cell hl; have m2 := (((Ext.refl _).alloc _).trans hE).cell hh; have m3 : rowOf w' w.heap.size = cs := by rw [Ext.rowOf hE (by simp)]; exact rowOf_new _ _ _ _
       have e4 : ρ (.tmp 4) = _ := hB (.tmp 4) rfl; have e11 : ρ (.tmp 11) = .bool false := hD 5 11 rfl rfl; clear hB hD; exact .inr ⟨by simp [wantedBy, e11], rfl⟩
     · intro ρ w' hE hB hD; have e11 : ρ (.tmp 11) = .bool false := hD 5 11 rfl rfl; have e12 : ρ (.tmp 12) = undef := hD 6 12 rfl rfl; have e13 : ρ (.tmp 13) = undef := hD 7 13 rfl rfl; clear hB hD; exact .inr ⟨by simp [wantedBy, e11], rfl⟩
     · intro ρ w' hE hB hD; have m0 := (((Ext.refl _).alloc _).trans hE).cell ha; have m1 := (((Ext.refl _).alloc _).trans hE).cell hl; have m2 := (((Ext.refl _).alloc _).trans hE).cell hh; have m3 : rowOf w' w.heap.size = cs := by rw [Ext.rowOf hE (by simp)]; exact rowOf_new _ _ _ _
       have e3 : ρ (.tmp 3) = _ := hB (.tmp 3) rfl; have e11 : ρ (.tmp 11) = .bool false := hD 5 11 rfl rfl; clear hB hD; exact .inr ⟨by simp [wantedBy, e11], rfl⟩
     · intro ρ w' hE hB hD; have e11 : ρ (.tmp 11) = .bool false := hD 5 11 rfl rfl; have e14 : ρ (.tmp 14) = undef := hD 8 14 rfl rfl; have e15 : ρ (.tmp 15) = undef := hD 9 15 rfl rfl; clear hB hD; exact .inr ⟨by simp [wantedBy, e11], rfl⟩
     · intro ρ w' hE hB hD; have ec := ctK hB
       have e11 : ρ (.tmp 11) = .bool false := hD 5 11 rfl rfl; have e16 : ρ (.tmp 16) = undef := hD 10 16 rfl rfl; clear hB hD; refine .inl ⟨rfl, ?_⟩; unfold Gives; go_simp; first | done | exact xr0 | exact xr1
     · intro ρ w' hE hB hD; have e17 : ρ (.tmp 17) = .bool false := hD 11 17 rfl rfl; clear hB hD; refine .inl ⟨rfl, ?_⟩; unfold Gives; go_simp; first | done | exact xr0 | exact xr1
   · intro a' w1 hE1 hd' hs' hB' hP'; have ha' := act_of_posts [(6, .func (.func g) #[] #[]), (7, .agg cs), (8, .int .i64 x), (9, .int .i64 lo), (10, .bool false), (11, .bool false), (12, undef), (13, undef), (14, undef), (15, undef), (16, undef), (17, .bool false), (5, .bool false)] hd' hs' hB' (by simp) (by kernel_rfl) (by
      intro p hp; simp only [List.mem_cons, List.mem_nil_iff, or_false] at hp
      rcases hp with rfl | rfl | rfl | rfl | rfl | rfl | rfl | rfl | rfl | rfl | rfl | rfl | rfl
      · exact hP' 0 6 rfl
      · exact hP' 1 7 rfl
      · exact hP' 2 8 rfl
      · exact hP' 3 9 rfl
      · exact hP' 4 10 rfl
      · exact hP' 5 11 rfl
      · exact hP' 6 12 rfl
      · exact hP' 7 13 rfl
      · exact hP' 8 14 rfl
      · exact hP' 9 15 rfl
      · exact hP' 10 16 rfl
      · exact hP' 11 17 rfl
      · exact hP' 12 5 rfl)
     clear hB' hP' hs' hd'; simp only [List.foldl_cons, List.foldl_nil, List.setIfInBounds_toArray, List.set_cons_succ, List.set_cons_zero] at ha'; subst ha'; go_wp2; go_ret; exact ⟨by rw [h1f]; rfl, ((Ext.refl _).alloc _).trans hE1⟩
theorem num1L (g k b : Nat) (hk : tys[k]? = some .I) (hg : Getter g k) (m : Msg) (hm : WT m) (w : World) (ha : w.cell? ⟨b, 0, none⟩ = some (.func (.func g) #[] #[])) :
 Calls Tryz.prog 226 #[.agg (msgV m), .pointer (some ⟨b, 0, none⟩)] w fun e w' => e = .returned (.bool (there m k)) ∧ Ext w w' := by
 rw [there_int hm hk]; have hv := cellAt_int hm hk; have hs := msgV_size hm; have hb := lt_of_cell ha; have he := hg.enters; have hc := fun w => hg.calls m hm w
 rw [hv] at hc; have HC := Lib.hid hc; clear hc hg hv; generalize msgV m = cs at *; generalize gi m k = x at *; clear hm; unfold Enters at he; go_enter Tryz.func226, Tryz.ntmps226
 go_wp2_with (first | (refine (HC.out _).mono ?_; rintro e w1 ⟨rfl, hE⟩)); go_ret; refine ⟨rfl, ?_⟩; exact ((Ext.refl _).alloc _).trans hE
theorem num2L (g k b c d : Nat) (lo up : Int) (hk : tys[k]? = some .I) (hg : Getter g k) (m : Msg) (hm : WT m) (w : World) (ha : w.cell? ⟨b, 0, none⟩ = some (.func (.func g) #[] #[]))
 (hl : w.cell? ⟨c, 0, none⟩ = some (.int .i64 lo)) (hh : w.cell? ⟨d, 0, none⟩ = some (.int .i64 up)) :
 Calls Tryz.prog 227 #[.agg (msgV m), .pointer (some ⟨b, 0, none⟩), .pointer (some ⟨c, 0, none⟩), .pointer (some ⟨d, 0, none⟩)] w fun e w' =>
  e = .returned (.bool (decide (lo ≤ gi m k) && decide (gi m k ≤ up))) ∧ Ext w w' := by
 have hv := cellAt_int hm hk; have hs := msgV_size hm; have hb := lt_of_cell ha; have he := hg.enters; have hc := fun w => hg.calls m hm w
 rw [hv] at hc; have HC := Lib.hid hc; clear hc hg hv; generalize msgV m = cs at *; generalize gi m k = x at *; clear hm; unfold Enters at he; by_cases h1 : lo ≤ x
 · skip
   go_enter Tryz.func227, Tryz.ntmps227
   go_wp2_with fail; refine wp_region_steps (fun _ => by kernel_rfl) [.is (.func (.func g) #[] #[]), .is (.agg cs), .is (.int .i64 x), .is (.int .i64 lo), .is (.bool true), .is (.bool true), .is (.func (.func g) #[] #[]), .is (.agg cs), .is (.int .i64 x), .is (.int .i64 up), .is (.bool (decide (x ≤ up))), .is (.bool (decide (x ≤ up))), .is (.bool (decide (x ≤ up)))] (by kernel_rfl) ?_ ?_
   · refine And.intro ?_ (And.intro ?_ (And.intro ?_ (And.intro ?_ (And.intro ?_ (And.intro ?_ (And.intro ?_ (And.intro ?_ (And.intro ?_ (And.intro ?_ (And.intro ?_ (And.intro ?_ (And.intro ?_ (True.intro)))))))))))))
     · intro ρ w' hE hB hD; have m0 := (((Ext.refl _).alloc _).trans hE).cell ha; have m1 := (((Ext.refl _).alloc _).trans hE).cell hl; have m2 := (((Ext.refl _).alloc _).trans hE).cell hh; have m3 : rowOf w' w.heap.size = cs := by rw [Ext.rowOf hE (by simp)]; exact rowOf_new _ _ _ _
       have e1 : ρ (.tmp 1) = _ := hB (.tmp 1) rfl; clear hB hD; refine .inl ⟨rfl, ?_⟩; unfold Gives; go_simp; first | done | exact xr0 | exact xr1
     · intro ρ w' hE hB hD; have m0 := (((Ext.refl _).alloc _).trans hE).cell ha; have m1 := (((Ext.refl _).alloc _).trans hE).cell hl; have m2 := (((Ext.refl _).alloc _).trans hE).cell hh; have m3 : rowOf w' w.heap.size = cs := by rw [Ext.rowOf hE (by simp)]; exact rowOf_new _ _ _ _
       have e4 : ρ (.tmp 4) = _ := hB (.tmp 4) rfl; clear hB hD; refine .inl ⟨rfl, ?_⟩; unfold Gives; go_simp; first | done | exact xr0 | exact xr1
     · intro ρ w' hE hB hD; have e6 : ρ (.tmp 6) = .func (.func g) #[] #[] := hD 0 6 rfl rfl; have e7 : ρ (.tmp 7) = .agg cs := hD 1 7 rfl rfl; clear hB hD; refine .inl ⟨rfl, ?_⟩; unfold Gives; go_simp; refine (HC.out _).mono ?_; rintro e w1 ⟨rfl, hE1⟩; first | exact hE1 | exact ⟨rfl, hE1⟩ | exact ⟨_, rfl, hE1, rfl⟩
     · intro ρ w' hE hB hD; have m0 := (((Ext.refl _).alloc _).trans hE).cell ha; have m1 := (((Ext.refl _).alloc _).trans hE).cell hl; have m2 := (((Ext.refl _).alloc _).trans hE).cell hh; have m3 : rowOf w' w.heap.size = cs := by rw [Ext.rowOf hE (by simp)]; exact rowOf_new _ _ _ _
       have e2 : ρ (.tmp 2) = _ := hB (.tmp 2) rfl; clear hB hD; refine .inl ⟨rfl, ?_⟩; unfold Gives; go_simp; first | done | exact xr0 | exact xr1
     · intro ρ w' hE hB hD; have e8 : ρ (.tmp 8) = .int .i64 x := hD 2 8 rfl rfl; have e9 : ρ (.tmp 9) = .int .i64 lo := hD 3 9 rfl rfl; clear hB hD; refine .inl ⟨rfl, ?_⟩; unfold Gives; go_simp; first | done | exact xr0 | exact xr1
     · intro ρ w' hE hB hD; have e10 : ρ (.tmp 10) = .bool true := hD 4 10 rfl rfl; clear hB hD; refine .inl ⟨rfl, ?_⟩; unfold Gives; go_simp; first | done | exact xr0 | exact xr1
     · intro ρ w' hE hB hD; have m0 := (((Ext.refl _).alloc _).trans hE).cell ha; have m1 := (((Ext.refl _).alloc _).trans hE).cell hl; have m2 := (((Ext.refl _).alloc _).trans hE).cell hh; have m3 : rowOf w' w.heap.size = cs := by rw [Ext.rowOf hE (by simp)]; exact rowOf_new _ _ _ _
       have e1 : ρ (.tmp 1) = _ := hB (.tmp 1) rfl; have e11 : ρ (.tmp 11) = .bool true := hD 5 11 rfl rfl; clear hB hD; refine .inl ⟨by simp [wantedBy, e11], ?_⟩; unfold Gives; go_simp; first | done | exact xr0 | exact xr1
     · intro ρ w' hE hB hD; have m0 := (((Ext.refl _).alloc _).trans hE).cell ha; have m1 := (((Ext.refl _).alloc _).trans hE).cell hl; have m2 := (((Ext.refl _).alloc _).trans hE).cell hh; have m3 : rowOf w' w.heap.size = cs := by rw [Ext.rowOf hE (by simp)]; exact rowOf_new _ _ _ _
       have e4 : ρ (.tmp 4) = _ := hB (.tmp 4) rfl; have e11 : ρ (.tmp 11) = .bool true := hD 5 11 rfl rfl; clear hB hD; refine .inl ⟨by simp [wantedBy, e11], ?_⟩; unfold Gives; go_simp; first | done | exact xr0 | exact xr1
     · intro ρ w' hE hB hD; have e11 : ρ (.tmp 11) = .bool true := hD 5 11 rfl rfl; have e12 : ρ (.tmp 12) = .func (.func g) #[] #[] := hD 6 12 rfl rfl; have e13 : ρ (.tmp 13) = .agg cs := hD 7 13 rfl rfl; clear hB hD; refine .inl ⟨by simp [wantedBy, e11], ?_⟩; unfold Gives; go_simp; refine (HC.out _).mono ?_; rintro e w1 ⟨rfl, hE1⟩; first | exact hE1 | exact ⟨rfl, hE1⟩ | exact ⟨_, rfl, hE1, rfl⟩
     · intro ρ w' hE hB hD; have m0 := (((Ext.refl _).alloc _).trans hE).cell ha; have m1 := (((Ext.refl _).alloc _).trans hE).cell hl; have m2 := (((Ext.refl _).alloc _).trans hE).cell hh; have m3 : rowOf w' w.heap.size = cs := by rw [Ext.rowOf hE (by simp)]; exact rowOf_new _ _ _ _
       have e3 : ρ (.tmp 3) = _ := hB (.tmp 3) rfl; have e11 : ρ (.tmp 11) = .bool true := hD 5 11 rfl rfl; clear hB hD; refine .inl ⟨by simp [wantedBy, e11], ?_⟩; unfold Gives; go_simp; first | done | exact xr0 | exact xr1
     · intro ρ w' hE hB hD; have e11 : ρ (.tmp 11) = .bool true := hD 5 11 rfl rfl; have e14 : ρ (.tmp 14) = .int .i64 x := hD 8 14 rfl rfl; have e15 : ρ (.tmp 15) = .int .i64 up := hD 9 15 rfl rfl; clear hB hD; refine .inl ⟨by simp [wantedBy, e11], ?_⟩; unfold Gives; go_simp; first | done | exact xr0 | exact xr1
     · intro ρ w' hE hB hD; have ec := ctK hB
       have e11 : ρ (.tmp 11) = .bool true := hD 5 11 rfl rfl; have e16 : ρ (.tmp 16) = .bool (decide (x ≤ up)) := hD 10 16 rfl rfl; clear hB hD; refine .inl ⟨rfl, ?_⟩; unfold Gives; go_simp; first | done | exact xr0 | exact xr1
     · intro ρ w' hE hB hD; have e17 : ρ (.tmp 17) = .bool (decide (x ≤ up)) := hD 11 17 rfl rfl; clear hB hD; refine .inl ⟨rfl, ?_⟩; unfold Gives; go_simp; first | done | exact xr0 | exact xr1
   · intro a' w1 hE1 hd' hs' hB' hP'; have ha' := act_of_posts [(6, .func (.func g) #[] #[]), (7, .agg cs), (8, .int .i64 x), (9, .int .i64 lo), (10, .bool true), (11, .bool true), (12, .func (.func g) #[] #[]), (13, .agg cs), (14, .int .i64 x), (15, .int .i64 up), (16, .bool (decide (x ≤ up))), (17, .bool (decide (x ≤ up))), (5, .bool (decide (x ≤ up)))] hd' hs' hB' (by simp) (by kernel_rfl) (by
      intro p hp; simp only [List.mem_cons, List.mem_nil_iff, or_false] at hp
      rcases hp with rfl | rfl | rfl | rfl | rfl | rfl | rfl | rfl | rfl | rfl | rfl | rfl | rfl
      · exact hP' 0 6 rfl
      · exact hP' 1 7 rfl
      · exact hP' 2 8 rfl
      · exact hP' 3 9 rfl
      · exact hP' 4 10 rfl
      · exact hP' 5 11 rfl
      · exact hP' 6 12 rfl
      · exact hP' 7 13 rfl
      · exact hP' 8 14 rfl
      · exact hP' 9 15 rfl
      · exact hP' 10 16 rfl
      · exact hP' 11 17 rfl
      · exact hP' 12 5 rfl)
     clear hB' hP' hs' hd'; simp only [List.foldl_cons, List.foldl_nil, List.setIfInBounds_toArray, List.set_cons_succ, List.set_cons_zero] at ha'; subst ha'; go_wp2; go_ret; exact ⟨by simp [h1], ((Ext.refl _).alloc _).trans hE1⟩
 · have h1f : decide (lo ≤ x) = false := by simpa using h1
   go_enter Tryz.func227, Tryz.ntmps227
   go_wp2_with fail; refine wp_region_steps (fun _ => by kernel_rfl) [.is (.func (.func g) #[] #[]), .is (.agg cs), .is (.int .i64 x), .is (.int .i64 lo), .is (.bool false), .is (.bool false), .is (undef), .is (undef), .is (undef), .is (undef), .is (undef), .is (.bool false), .is (.bool false)] (by kernel_rfl) ?_ ?_
   · refine And.intro ?_ (And.intro ?_ (And.intro ?_ (And.intro ?_ (And.intro ?_ (And.intro ?_ (And.intro ?_ (And.intro ?_ (And.intro ?_ (And.intro ?_ (And.intro ?_ (And.intro ?_ (And.intro ?_ (True.intro)))))))))))))
     · intro ρ w' hE hB hD; have m0 := (((Ext.refl _).alloc _).trans hE).cell ha; have m1 := (((Ext.refl _).alloc _).trans hE).cell hl; have m2 := (((Ext.refl _).alloc _).trans hE).cell hh; have m3 : rowOf w' w.heap.size = cs := by rw [Ext.rowOf hE (by simp)]; exact rowOf_new _ _ _ _
       have e1 : ρ (.tmp 1) = _ := hB (.tmp 1) rfl; clear hB hD; refine .inl ⟨rfl, ?_⟩; unfold Gives; go_simp; first | done | exact xr0 | exact xr1
     · intro ρ w' hE hB hD; have m0 := (((Ext.refl _).alloc _).trans hE).cell ha; have m1 := (((Ext.refl _).alloc _).trans hE).cell hl; have m2 := (((Ext.refl _).alloc _).trans hE).cell hh; have m3 : rowOf w' w.heap.size = cs := by rw [Ext.rowOf hE (by simp)]; exact rowOf_new _ _ _ _
       have e4 : ρ (.tmp 4) = _ := hB (.tmp 4) rfl; clear hB hD; refine .inl ⟨rfl, ?_⟩; unfold Gives; go_simp; first | done | exact xr0 | exact xr1
     · intro ρ w' hE hB hD; have e6 : ρ (.tmp 6) = .func (.func g) #[] #[] := hD 0 6 rfl rfl; have e7 : ρ (.tmp 7) = .agg cs := hD 1 7 rfl rfl; clear hB hD; refine .inl ⟨rfl, ?_⟩; unfold Gives; go_simp; refine (HC.out _).mono ?_; rintro e w1 ⟨rfl, hE1⟩; first | exact hE1 | exact ⟨rfl, hE1⟩ | exact ⟨_, rfl, hE1, rfl⟩
     · intro ρ w' hE hB hD; have m0 := (((Ext.refl _).alloc _).trans hE).cell ha; have m1 := (((Ext.refl _).alloc _).trans hE).cell hl; have m2 := (((Ext.refl _).alloc _).trans hE).cell hh; have m3 : rowOf w' w.heap.size = cs := by rw [Ext.rowOf hE (by simp)]; exact rowOf_new _ _ _ _
       have e2 : ρ (.tmp 2) = _ := hB (.tmp 2) rfl; clear hB hD; refine .inl ⟨rfl, ?_⟩; unfold Gives; go_simp; first | done | exact xr0 | exact xr1
     · intro ρ w' hE hB hD; have e8 : ρ (.tmp 8) = .int .i64 x := hD 2 8 rfl rfl; have e9 : ρ (.tmp 9) = .int .i64 lo := hD 3 9 rfl rfl; clear hB hD; refine .inl ⟨rfl, ?_⟩; unfold Gives; go_simp; first | done | exact xr0 | exact xr1
     · intro ρ w' hE hB hD; have e10 : ρ (.tmp 10) = .bool false := hD 4 10 rfl rfl; clear hB hD; refine .inl ⟨rfl, ?_⟩; unfold Gives; go_simp; first | done | exact xr0 | exact xr1
     · intro ρ w' hE hB hD; have m0 := (((Ext.refl _).alloc _).trans hE).cell ha; have m1 := (((Ext.refl _).alloc _).trans hE).cell hl; have m2 := (((Ext.refl _).alloc _).trans hE).cell hh; have m3 : rowOf w' w.heap.size = cs := by rw [Ext.rowOf hE (by simp)]; exact rowOf_new _ _ _ _
       have e1 : ρ (.tmp 1) = _ := hB (.tmp 1) rfl; have e11 : ρ (.tmp 11) = .bool false := hD 5 11 rfl rfl; clear hB hD; exact .inr ⟨by simp [wantedBy, e11], rfl⟩
     · intro ρ w' hE hB hD; have m0 := (((Ext.refl _).alloc _).trans hE).cell ha; have m1 := (((Ext.refl _).alloc _).trans hE).cell hl; have m2 := (((Ext.refl _).alloc _).trans hE).cell hh; have m3 : rowOf w' w.heap.size = cs := by rw [Ext.rowOf hE (by simp)]; exact rowOf_new _ _ _ _
       have e4 : ρ (.tmp 4) = _ := hB (.tmp 4) rfl; have e11 : ρ (.tmp 11) = .bool false := hD 5 11 rfl rfl; clear hB hD; exact .inr ⟨by simp [wantedBy, e11], rfl⟩
     · intro ρ w' hE hB hD; have e11 : ρ (.tmp 11) = .bool false := hD 5 11 rfl rfl; have e12 : ρ (.tmp 12) = undef := hD 6 12 rfl rfl; have e13 : ρ (.tmp 13) = undef := hD 7 13 rfl rfl; clear hB hD; exact .inr ⟨by simp [wantedBy, e11], rfl⟩
     · intro ρ w' hE hB hD; have m0 := (((Ext.refl _).alloc _).trans hE).cell ha; have m1 := (((Ext.refl _).alloc _).trans hE).cell hl; have m2 := (((Ext.refl _).alloc _).trans hE).cell hh; have m3 : rowOf w' w.heap.size = cs := by rw [Ext.rowOf hE (by simp)]; exact rowOf_new _ _ _ _
       have e3 : ρ (.tmp 3) = _ := hB (.tmp 3) rfl; have e11 : ρ (.tmp 11) = .bool false := hD 5 11 rfl rfl; clear hB hD; exact .inr ⟨by simp [wantedBy, e11], rfl⟩
     · intro ρ w' hE hB hD; have e11 : ρ (.tmp 11) = .bool false := hD 5 11 rfl rfl; have e14 : ρ (.tmp 14) = undef := hD 8 14 rfl rfl; have e15 : ρ (.tmp 15) = undef := hD 9 15 rfl rfl; clear hB hD; exact .inr ⟨by simp [wantedBy, e11], rfl⟩
     · intro ρ w' hE hB hD; have ec := ctK hB
       have e11 : ρ (.tmp 11) = .bool false := hD 5 11 rfl rfl; have e16 : ρ (.tmp 16) = undef := hD 10 16 rfl rfl; clear hB hD; refine .inl ⟨rfl, ?_⟩; unfold Gives; go_simp; first | done | exact xr0 | exact xr1
     · intro ρ w' hE hB hD; have e17 : ρ (.tmp 17) = .bool false := hD 11 17 rfl rfl; clear hB hD; refine .inl ⟨rfl, ?_⟩; unfold Gives; go_simp; first | done | exact xr0 | exact xr1
   · intro a' w1 hE1 hd' hs' hB' hP'; have ha' := act_of_posts [(6, .func (.func g) #[] #[]), (7, .agg cs), (8, .int .i64 x), (9, .int .i64 lo), (10, .bool false), (11, .bool false), (12, undef), (13, undef), (14, undef), (15, undef), (16, undef), (17, .bool false), (5, .bool false)] hd' hs' hB' (by simp) (by kernel_rfl) (by
      intro p hp; simp only [List.mem_cons, List.mem_nil_iff, or_false] at hp
      rcases hp with rfl | rfl | rfl | rfl | rfl | rfl | rfl | rfl | rfl | rfl | rfl | rfl | rfl
      · exact hP' 0 6 rfl
      · exact hP' 1 7 rfl
      · exact hP' 2 8 rfl
      · exact hP' 3 9 rfl
      · exact hP' 4 10 rfl
      · exact hP' 5 11 rfl
      · exact hP' 6 12 rfl
      · exact hP' 7 13 rfl
      · exact hP' 8 14 rfl
      · exact hP' 9 15 rfl
      · exact hP' 10 16 rfl
      · exact hP' 11 17 rfl
      · exact hP' 12 5 rfl)
     clear hB' hP' hs' hd'; simp only [List.foldl_cons, List.foldl_nil, List.setIfInBounds_toArray, List.set_cons_succ, List.set_cons_zero] at ha'; subst ha'; go_wp2; go_ret; exact ⟨by rw [h1f]; rfl, ((Ext.refl _).alloc _).trans hE1⟩
theorem text1 (g k b : Nat) (hk : tys[k]? = some .S) (hg : Getter g k) (m : Msg) (hm : WT m) (w : World) (ha : w.cell? ⟨b, 0, none⟩ = some (.func (.func g) #[] #[])) :
 Calls Tryz.prog 223 #[.agg (msgV m), .pointer (some ⟨b, 0, none⟩)] w fun e w' => e = .returned (.bool (there m k)) ∧ Ext w w' := by
 rw [there_str hm hk]; have hv := cellAt_str hm hk; have hs := msgV_size hm; have hb := lt_of_cell ha; have he := hg.enters; have hc := fun w => hg.calls m hm w
 rw [hv] at hc; have HC := Lib.hid hc; clear hc hg hv; generalize msgV m = cs at *; generalize gs m k = x at *; clear hm; unfold Enters at he; go_enter Tryz.func223, Tryz.ntmps223
 go_wp2_with (first | (refine (HC.out _).mono ?_; rintro e w1 ⟨rfl, hE⟩)); go_ret; refine ⟨?_, ((Ext.refl _).alloc _).trans hE⟩; cases x <;> simp
theorem text2 (g k f b c : Nat) (p : List UInt8 → Bool) (hk : tys[k]? = some .S) (hg : Getter g k) (hf : FnStr f p) (m : Msg) (hm : WT m) (w : World) (ha : w.cell? ⟨b, 0, none⟩ = some (.func (.func f) #[] #[]))
 (hl : w.cell? ⟨c, 0, none⟩ = some (.func (.func g) #[] #[])) :
 Calls Tryz.prog 224 #[.agg (msgV m), .pointer (some ⟨b, 0, none⟩), .pointer (some ⟨c, 0, none⟩)] w fun e w' => e = .returned (.bool (p (gs m k))) ∧ Ext w w' := by
 have hv := cellAt_str hm hk; have hs := msgV_size hm; have hb := lt_of_cell ha; have hb2 := lt_of_cell hl; have he := hg.enters; have hfe := hf.enters; have hc := fun w => hg.calls m hm w
 rw [hv] at hc; have HC := Lib.hid hc; have hc2 := fun w => hf.calls (gs m k) w (hm.gs_len hk)
 have HC2 := Lib.hid hc2; clear hc hg hv hc2 hf; generalize msgV m = cs at *; generalize gs m k = x at *; generalize p x = r at *; clear hm; unfold Enters at he hfe; go_enter Tryz.func224, Tryz.ntmps224
 go_wp2_with fail; refine wp_region_steps (fun _ => by kernel_rfl) [.is (.func (.func f) #[] #[]), .is (.func (.func g) #[] #[]), .is (.agg cs), .is (.string ⟨x.toArray⟩), .is (.bool r), .is (.bool r)] (by kernel_rfl) ?_ ?_
 · refine And.intro ?_ (And.intro ?_ (And.intro ?_ (And.intro ?_ (And.intro ?_ (And.intro ?_ (True.intro))))))
   · intro ρ w' hE hB hD; have m0 := (((Ext.refl _).alloc _).trans hE).cell ha; have m1 := (((Ext.refl _).alloc _).trans hE).cell hl; have m3 : rowOf w' w.heap.size = cs := by rw [Ext.rowOf hE (by simp)]; exact rowOf_new _ _ _ _
     have e1 : ρ (.tmp 1) = _ := hB (.tmp 1) rfl; clear hB hD; refine .inl ⟨rfl, ?_⟩; unfold Gives; go_simp; first | done | exact xr0 | exact xr1
   · intro ρ w' hE hB hD; have m0 := (((Ext.refl _).alloc _).trans hE).cell ha; have m1 := (((Ext.refl _).alloc _).trans hE).cell hl; have m3 : rowOf w' w.heap.size = cs := by rw [Ext.rowOf hE (by simp)]; exact rowOf_new _ _ _ _
     have e2 : ρ (.tmp 2) = _ := hB (.tmp 2) rfl; clear hB hD; refine .inl ⟨rfl, ?_⟩; unfold Gives; go_simp; first | done | exact xr0 | exact xr1
   · intro ρ w' hE hB hD; have m0 := (((Ext.refl _).alloc _).trans hE).cell ha; have m1 := (((Ext.refl _).alloc _).trans hE).cell hl; have m3 : rowOf w' w.heap.size = cs := by rw [Ext.rowOf hE (by simp)]; exact rowOf_new _ _ _ _
     have e3 : ρ (.tmp 3) = _ := hB (.tmp 3) rfl; clear hB hD; refine .inl ⟨rfl, ?_⟩; unfold Gives; go_simp; first | done | exact xr0 | exact xr1
   · intro ρ w' hE hB hD; have e6 : ρ (.tmp 6) = .func (.func g) #[] #[] := hD 1 6 rfl rfl; have e7 : ρ (.tmp 7) = .agg cs := hD 2 7 rfl rfl; clear hB hD; refine .inl ⟨rfl, ?_⟩; unfold Gives; go_simp; refine (HC.out _).mono ?_; rintro e w1 ⟨rfl, hE1⟩; first | exact hE1 | exact ⟨rfl, hE1⟩ | exact ⟨_, rfl, hE1, rfl⟩
   · intro ρ w' hE hB hD; have e5 : ρ (.tmp 5) = .func (.func f) #[] #[] := hD 0 5 rfl rfl; have e8 : ρ (.tmp 8) = .string ⟨x.toArray⟩ := hD 3 8 rfl rfl; clear hB hD; refine .inl ⟨rfl, ?_⟩; unfold Gives; go_simp; refine (HC2.out _).mono ?_; rintro e w1 ⟨rfl, hE1⟩; first | exact hE1 | exact ⟨rfl, hE1⟩ | exact ⟨_, rfl, hE1, rfl⟩
   · intro ρ w' hE hB hD; have e9 : ρ (.tmp 9) = .bool r := hD 4 9 rfl rfl; clear hB hD; refine .inl ⟨rfl, ?_⟩; unfold Gives; go_simp; first | done | exact xr0 | exact xr1
 · intro a' w1 hE1 hd' hs' hB' hP'; have ha' := act_of_posts [(5, .func (.func f) #[] #[]), (6, .func (.func g) #[] #[]), (7, .agg cs), (8, .string ⟨x.toArray⟩), (9, .bool r), (4, .bool r)] hd' hs' hB' (by simp) (by kernel_rfl) (by
    intro p hp; simp only [List.mem_cons, List.mem_nil_iff, or_false] at hp
    rcases hp with rfl | rfl | rfl | rfl | rfl | rfl
    · exact hP' 0 5 rfl
    · exact hP' 1 6 rfl
    · exact hP' 2 7 rfl
    · exact hP' 3 8 rfl
    · exact hP' 4 9 rfl
    · exact hP' 5 4 rfl)
   clear hB' hP' hs' hd'; simp only [List.foldl_cons, List.foldl_nil, List.setIfInBounds_toArray, List.set_cons_succ, List.set_cons_zero] at ha'; subst ha'; go_wp2; go_ret; exact ⟨rfl, ((Ext.refl _).alloc _).trans hE1⟩
theorem fn_num1 {w : World} {g k b : Nat} (hk : tys[k]? = some .I) (hg : Getter g k) (ha : w.cell? ⟨b, 0, none⟩ = some (.func (.func g) #[] #[])) :
 FnMsg w (.func (.func 220) #[] #[.pointer (some ⟨b, 0, none⟩)]) (fun m => there m k) :=
 ⟨_, _, rfl, fun args w => by go_simp, fun w' hE m hm => by simpa using num1 g k b hk hg m hm w' (hE.cell ha)⟩
theorem fn_num2 {w : World} {g k b c d : Nat} {lo up : Int} (hk : tys[k]? = some .I) (hg : Getter g k) (ha : w.cell? ⟨b, 0, none⟩ = some (.func (.func g) #[] #[]))
 (hl : w.cell? ⟨c, 0, none⟩ = some (.int .i64 lo)) (hh : w.cell? ⟨d, 0, none⟩ = some (.int .i64 up)) :
 FnMsg w (.func (.func 221) #[] #[.pointer (some ⟨b, 0, none⟩), .pointer (some ⟨c, 0, none⟩), .pointer (some ⟨d, 0, none⟩)]) (fun m => decide (lo ≤ gi m k) && decide (gi m k ≤ up)) :=
 ⟨_, _, rfl, fun args w => by go_simp, fun w' hE m hm => by simpa using num2 g k b c d lo up hk hg m hm w' (hE.cell ha) (hE.cell hl) (hE.cell hh)⟩
theorem number (n : Int) (g k : Nat) (lo up : Int) (hk : tys[k]? = some .I) (hg : Getter g k) (w : World) :
 Calls Tryz.prog 95 #[.int .i64 n, .func (.func g) #[] #[], .int .i64 lo, .int .i64 up] w fun e w' => Returns e (fun v => IsRow w' v n (fun m => there m k) (fun m => decide (lo ≤ gi m k) && decide (gi m k ≤ up)) false 0 0) ∧ Ext w w' := by
 go_enter Tryz.func95, Tryz.ntmps95
 go_wp2; refine bodyPost_ret (v := .agg #[.int .i64 n, _, _, .bool false, .int .u32 0, .int .u32 0]) (by simp [results, Tryz.results95, go_sem]; exact ⟨rfl, rfl⟩) rfl ⟨⟨_, rfl, ⟨_, _, rfl, ?_, ?_⟩⟩, ?_⟩
 · exact fn_num1 hk hg (by go_simp)
 · exact fn_num2 hk hg (by go_simp) (by go_simp) (by go_simp)
 · exact ((((Ext.refl _).alloc _).alloc _).alloc _).alloc _
theorem fn_num1L {w : World} {g k b : Nat} (hk : tys[k]? = some .I) (hg : Getter g k) (ha : w.cell? ⟨b, 0, none⟩ = some (.func (.func g) #[] #[])) :
 FnMsg w (.func (.func 226) #[] #[.pointer (some ⟨b, 0, none⟩)]) (fun m => there m k) :=
 ⟨_, _, rfl, fun args w => by go_simp, fun w' hE m hm => by simpa using num1L g k b hk hg m hm w' (hE.cell ha)⟩
theorem fn_num2L {w : World} {g k b c d : Nat} {lo up : Int} (hk : tys[k]? = some .I) (hg : Getter g k) (ha : w.cell? ⟨b, 0, none⟩ = some (.func (.func g) #[] #[]))
 (hl : w.cell? ⟨c, 0, none⟩ = some (.int .i64 lo)) (hh : w.cell? ⟨d, 0, none⟩ = some (.int .i64 up)) :
 FnMsg w (.func (.func 227) #[] #[.pointer (some ⟨b, 0, none⟩), .pointer (some ⟨c, 0, none⟩), .pointer (some ⟨d, 0, none⟩)]) (fun m => decide (lo ≤ gi m k) && decide (gi m k ≤ up)) :=
 ⟨_, _, rfl, fun args w => by go_simp, fun w' hE m hm => by simpa using num2L g k b c d lo up hk hg m hm w' (hE.cell ha) (hE.cell hl) (hE.cell hh)⟩
theorem numberL (n : Int) (g k : Nat) (lo up : Int) (hk : tys[k]? = some .I) (hg : Getter g k) (w : World) :
 Calls Tryz.prog 106 #[.int .i64 n, .func (.func g) #[] #[], .int .i64 lo, .int .i64 up] w fun e w' => Returns e (fun v => IsRow w' v n (fun m => there m k) (fun m => decide (lo ≤ gi m k) && decide (gi m k ≤ up)) false 0 0) ∧ Ext w w' := by
 go_enter Tryz.func106, Tryz.ntmps106
 go_wp2; refine bodyPost_ret (v := .agg #[.int .i64 n, _, _, .bool false, .int .u32 0, .int .u32 0]) (by simp [results, Tryz.results106, go_sem]; exact ⟨rfl, rfl⟩) rfl ⟨⟨_, rfl, ⟨_, _, rfl, ?_, ?_⟩⟩, ?_⟩
 · exact fn_num1L hk hg (by go_simp)
 · exact fn_num2L hk hg (by go_simp) (by go_simp) (by go_simp)
 · exact ((((Ext.refl _).alloc _).alloc _).alloc _).alloc _
theorem fn_text1 {w : World} {g k b : Nat} (hk : tys[k]? = some .S) (hg : Getter g k) (ha : w.cell? ⟨b, 0, none⟩ = some (.func (.func g) #[] #[])) :
 FnMsg w (.func (.func 223) #[] #[.pointer (some ⟨b, 0, none⟩)]) (fun m => there m k) :=
 ⟨_, _, rfl, fun args w => by go_simp, fun w' hE m hm => by simpa using text1 g k b hk hg m hm w' (hE.cell ha)⟩
theorem fn_text2 {w : World} {g k f b c : Nat} {p : List UInt8 → Bool} (hk : tys[k]? = some .S) (hg : Getter g k) (hf : FnStr f p) (ha : w.cell? ⟨b, 0, none⟩ = some (.func (.func f) #[] #[]))
 (hl : w.cell? ⟨c, 0, none⟩ = some (.func (.func g) #[] #[])) :
 FnMsg w (.func (.func 224) #[] #[.pointer (some ⟨b, 0, none⟩), .pointer (some ⟨c, 0, none⟩)]) (fun m => p (gs m k)) :=
 ⟨_, _, rfl, fun args w => by go_simp, fun w' hE m hm => by simpa using text2 g k f b c p hk hg hf m hm w' (hE.cell ha) (hE.cell hl)⟩
theorem textRow (n : Int) (g k f : Nat) (p : List UInt8 → Bool) (hk : tys[k]? = some .S) (hg : Getter g k) (hf : FnStr f p) (w : World) :
 Calls Tryz.prog 99 #[.int .i64 n, .func (.func g) #[] #[], .func (.func f) #[] #[]] w fun e w' => Returns e (fun v => IsRow w' v n (fun m => there m k) (fun m => p (gs m k)) false 0 0) ∧ Ext w w' := by
 go_enter Tryz.func99, Tryz.ntmps99
 go_wp2; refine bodyPost_ret (v := .agg #[.int .i64 n, _, _, .bool false, .int .u32 0, .int .u32 0]) (by simp [results, Tryz.results99, go_sem]; exact ⟨rfl, rfl⟩) rfl ⟨⟨_, rfl, ⟨_, _, rfl, ?_, ?_⟩⟩, ?_⟩
 · exact fn_text1 hk hg (by go_simp)
 · exact fn_text2 hk hg hf (by go_simp) (by go_simp)
 · exact (((Ext.refl _).alloc _).alloc _).alloc _
theorem fn_truth {w : World} {g k : Nat} (hk : tys[k]? = some .B) (hg : Getter g k) : FnMsg w (.func (.func g) #[] #[]) (fun m => gb m k) :=
 ⟨_, _, rfl, hg.enters, fun w' _ m hm => by have := hg.calls m hm w'; rw [cellAt_bool hm hk] at this; simpa using this⟩
theorem FnMsg.congr {w : World} {f : Value} {g g' : Msg → Bool} (h : FnMsg w f g) (he : ∀ m, WT m → g m = g' m) : FnMsg w f g' := by
 obtain ⟨fid, caps, e, h1, h2⟩ := h; exact ⟨fid, caps, e, h1, fun w' hw' m hm => by rw [← he m hm]; exact h2 w' hw' m hm⟩
theorem truthRow (n : Int) (g k : Nat) (hk : tys[k]? = some .B) (hg : Getter g k) (w : World) :
 Calls Tryz.prog 104 #[.int .i64 n, .func (.func g) #[] #[]] w fun e w' => Returns e (fun v => IsRow w' v n (fun m => there m k) (fun m => gb m k) false 0 0) ∧ Ext w w' := by
 go_enter Tryz.func104, Tryz.ntmps104
 go_wp2; refine bodyPost_ret (v := .agg #[.int .i64 n, .func (.func g) #[] #[], .func (.func g) #[] #[], .bool false, .int .u32 0, .int .u32 0]) (by simp [results, Tryz.results104, go_sem]) rfl ⟨⟨_, rfl, ⟨_, _, rfl, (fn_truth hk hg).congr fun m hm => (there_bool hm hk).symm, fn_truth hk hg⟩⟩, ?_⟩; exact (Ext.refl _).alloc _
theorem orZeroRow (n : Int) (th fi : Msg → Bool) (z : Bool) (mu ma : Nat) (v : Value) (w : World) (h : IsRow w v n th fi z mu ma) :
 Calls Tryz.prog 108 #[v] w fun e w' => Returns e (fun v => IsRow w' v n th fi true mu ma) ∧ Ext w w' := by
 obtain ⟨a, b, rfl, h1, h2⟩ := h.is; obtain ⟨f1, c1, rfl, x1, y1⟩ := h1; obtain ⟨f2, c2, rfl, x2, y2⟩ := h2; have H1 := Lib.hid x1; have H2 := Lib.hid x2; have Y1 := Lib.hid y1; have Y2 := Lib.hid y2; clear x1 x2 y1 y2 h; go_enter Tryz.func108, Tryz.ntmps108
 go_wp2; have hE : Ext w ((w.alloc (Obj.cells #[.int .i64 n, .func (.func f1) #[] c1, .func (.func f2) #[] c2, .bool true, .int .u32 mu, .int .u32 ma] 93)).alloc (Obj.cells #[.int .i64 n, .func (.func f1) #[] c1, .func (.func f2) #[] c2, .bool true, .int .u32 mu, .int .u32 ma] 93)) := ((Ext.refl _).alloc _).alloc _; refine bodyPost_ret (v := .agg #[.int .i64 n, .func (.func f1) #[] c1, .func (.func f2) #[] c2, .bool true, .int .u32 mu, .int .u32 ma]) (by simp [results, Tryz.results108, go_sem]) rfl ⟨⟨_, rfl, ⟨_, _, rfl, FnMsg.ext ⟨_, _, rfl, H1.out, Y1.out⟩ hE, FnMsg.ext ⟨_, _, rfl, H2.out, Y2.out⟩ hE⟩⟩, hE⟩
theorem byRow (n : Int) (th fi : Msg → Bool) (z : Bool) (mu0 ma0 : Nat) (mu ma : Nat) (v : Value) (w : World) (h : IsRow w v n th fi z mu0 ma0) :
 Calls Tryz.prog 97 #[v, .int .u32 mu, .int .u32 ma] w fun e w' => Returns e (fun v => IsRow w' v n th fi z mu ma) ∧ Ext w w' := by
 obtain ⟨a, b, rfl, h1, h2⟩ := h.is; obtain ⟨f1, c1, rfl, x1, y1⟩ := h1; obtain ⟨f2, c2, rfl, x2, y2⟩ := h2; have H1 := Lib.hid x1; have H2 := Lib.hid x2; have Y1 := Lib.hid y1; have Y2 := Lib.hid y2; clear x1 x2 y1 y2 h; go_enter Tryz.func97, Tryz.ntmps97
 go_wp2; have hE : Ext w ((w.alloc (Obj.cells #[.int .i64 n, .func (.func f1) #[] c1, .func (.func f2) #[] c2, .bool z, .int .u32 mu, .int .u32 ma] 93)).alloc (Obj.cells #[.int .i64 n, .func (.func f1) #[] c1, .func (.func f2) #[] c2, .bool z, .int .u32 mu, .int .u32 ma] 93)) := ((Ext.refl _).alloc _).alloc _; refine bodyPost_ret (v := .agg #[.int .i64 n, .func (.func f1) #[] c1, .func (.func f2) #[] c2, .bool z, .int .u32 mu, .int .u32 ma]) (by simp [results, Tryz.results97, go_sem]) rfl ⟨⟨_, rfl, ⟨_, _, rfl, FnMsg.ext ⟨_, _, rfl, H1.out, Y1.out⟩ hE, FnMsg.ext ⟨_, _, rfl, H2.out, Y2.out⟩ hE⟩⟩, hE⟩
end
section
open Go Go.RowKit
set_option maxHeartbeats 400000
attribute [local go_sem] ba_get
theorem isText_calls (s : List UInt8) (w : World) (hs : s.length ≤ 140737488355328) :
 Calls Tryz.prog 123 #[.string ⟨s.toArray⟩] w fun e w' => e = .returned (.bool (isText s)) ∧ w = w' := by
 go_enter Tryz.func123, Tryz.ntmps123
 go_wp2; go_loop [2, 6] (fun r i => ∃ k : Nat, k ≤ s.length ∧ i = .int .i64 k ∧ r = .bool false ∧ (s.take k).all textSign = true) (fun _ i => s.length - (intOf i).toNat)
 case atStart => exact ⟨0, Nat.zero_le _, rfl, rfl, rfl⟩
 case round =>
  obtain ⟨k, hk, rfl, rfl, hall⟩ := hrel; have HA := Lib.hid hall; clear hall; by_cases hlt : k < s.length
  · by_cases hc : textSign s[k] = true
    · have HN := Lib.hid (all_take_succ hlt HA.out hc); rw [textSign_iff] at hc; obtain ⟨⟨h1, h2⟩, h3⟩ := hc; generalize hg : s[k] = c at *; have HG := Lib.hid hg; go_wp2; go_round
      case rel => exact ⟨k + 1, by omega, by go_num, rfl, HN.out⟩
      case measure => simp [intOf]; omega
    · have e : isText s = false := by simp [isText, all_false hlt hc]
      have E := Lib.hid e; clear e; have hn := not_textSign hc; clear hc; rcases hn with h1 | h1 | ⟨h1, h2, h3⟩
      all_goals
       go_wp2; go_ret; exact ⟨by rw [E.out]; rfl, rfl⟩
  · obtain rfl : k = s.length := by omega
    have e : isText s = decide (s.length ≤ 60) := by
     have := HA.out; rw [List.take_of_length_le (by omega)] at this; simp [isText, this]
    have E := Lib.hid e; clear e; go_wp2; go_ret; refine ⟨?_, rfl⟩; rw [E.out]; simp
    omega
theorem isTest_calls (s : List UInt8) (w : World) (hs : s.length ≤ 140737488355328) :
 Calls Tryz.prog 113 #[.string ⟨s.toArray⟩] w fun e w' => e = .returned (.bool (isTest s)) ∧ w = w' := by
 by_cases h : s.length ≤ 20
 · have e : isTest s = isText s := by simp [isTest, h]
   rw [e]; clear e; go_enter Tryz.func113, Tryz.ntmps113
   go_wp2_with (first | (go_at_call 123; refine (isText_calls _ _ hs).mono ?_; rintro e w' ⟨rfl, rfl⟩)); go_ret; exact ⟨rfl, rfl⟩
 · have e : isTest s = false := by simp [isTest]; omega
   rw [e]; clear e; go_enter Tryz.func113, Tryz.ntmps113
   go_wp2_with (first | (go_at_call 123; refine (isText_calls _ _ hs).mono ?_; rintro e w' ⟨rfl, rfl⟩)); go_ret; exact ⟨rfl, rfl⟩
theorem fn_isText : FnStr 123 isText := ⟨fun args w => by go_simp, fun s w h => (isText_calls s w h).mono fun e w' ⟨h1, h2⟩ => ⟨h1, h2 ▸ Ext.refl w⟩⟩
theorem fn_isTest : FnStr 113 isTest := ⟨fun args w => by go_simp, fun s w h => (isTest_calls s w h).mono fun e w' ⟨h1, h2⟩ => ⟨h1, h2 ▸ Ext.refl w⟩⟩
end
section
open Go Go.RowKit
theorem ent_outcrylaw05_example : Enters 37 := fun args w => by go_simp
theorem ent_msg_kinds_has : Enters 43 := fun args w => by go_simp
theorem ent_num_Print : Enters 53 := fun args w => by go_simp
theorem ent_fix_formOf : Enters 78 := fun args w => by go_simp
theorem ent_fix_slot_fits : Enters 92 := fun args w => by go_simp
theorem ent_msg_of : Enters 94 := fun args w => by go_simp
theorem ent_msg_number_int : Enters 95 := fun args w => by go_simp
theorem ent_msg_field_by : Enters 97 := fun args w => by go_simp
theorem ent_msg_text : Enters 99 := fun args w => by go_simp
theorem ent_msg_truth : Enters 104 := fun args w => by go_simp
theorem ent_msg_number_int64 : Enters 106 := fun args w => by go_simp
theorem ent_msg_field_orZero : Enters 108 := fun args w => by go_simp
theorem ent_fields_digit : Enters 229 := fun args w => by go_simp
theorem ent_clock_read : Enters 359 := fun args w => by go_simp
end
section
open Go Go.RowKit
set_option maxHeartbeats 400000
theorem bits_and_u32_nat (a b : Nat) (ha : a < 4294967296) (hb : b < 4294967296) :
 Go.bits .and .u32 (a : Int) (b : Int) = ((a &&& b : Nat) : Int) := by
 have hx : a &&& b < 2 ^ 32 := Nat.and_lt_two_pow _ (by omega); have h1 : (BitVec.ofInt 32 (a : Int)).toNat = a := by
  rw [BitVec.ofInt_natCast, BitVec.toNat_ofNat]; exact Nat.mod_eq_of_lt (by omega)
 have h2 : (BitVec.ofInt 32 (b : Int)).toNat = b := by
  rw [BitVec.ofInt_natCast, BitVec.toNat_ofNat]; exact Nat.mod_eq_of_lt (by omega)
 show IntKind.u32.wrap ((BitVec.ofInt 32 (a : Int) &&& BitVec.ofInt 32 (b : Int)).toNat : Int) = _
 rw [BitVec.toNat_and, h1, h2, IntKind.wrap_u32]; omega
theorem bits_or_u32_nat (a b : Nat) (ha : a < 4294967296) (hb : b < 4294967296) :
 Go.bits .or .u32 (a : Int) (b : Int) = ((a ||| b : Nat) : Int) := by
 have hx : a ||| b < 2 ^ 32 := Nat.or_lt_two_pow (by omega) (by omega)
 have h1 : (BitVec.ofInt 32 (a : Int)).toNat = a := by
  rw [BitVec.ofInt_natCast, BitVec.toNat_ofNat]; exact Nat.mod_eq_of_lt (by omega)
 have h2 : (BitVec.ofInt 32 (b : Int)).toNat = b := by
  rw [BitVec.ofInt_natCast, BitVec.toNat_ofNat]; exact Nat.mod_eq_of_lt (by omega)
 show IntKind.u32.wrap ((BitVec.ofInt 32 (a : Int) ||| BitVec.ofInt 32 (b : Int)).toNat : Int) = _
 rw [BitVec.toNat_or, h1, h2, IntKind.wrap_u32]; omega
theorem bit_at (s k p : Nat) (hs : s < 4294967296) (hp : p = 2 ^ k) : (Go.bits .and .u32 ((s : Int) / (p : Int)) 1 == 1) = s.testBit k := by
 subst hp; have e : ((s : Int) / ((2 ^ k : Nat) : Int)) = ((s / 2 ^ k : Nat) : Int) := by simp
 have hlt : s / 2 ^ k < 4294967296 := Nat.lt_of_le_of_lt (Nat.div_le_self _ _) hs; rw [e, show (1 : Int) = ((1 : Nat) : Int) from rfl, bits_and_u32_nat _ _ hlt (by omega), Nat.and_one_is_mod, Nat.testBit_eq_decide_div_mod_eq]; rw [Bool.eq_iff_iff]; simp only [beq_iff_eq, decide_eq_true_eq]; generalize s / 2 ^ k = q; omega
theorem bits_from_lt (l : List Nat) : ∀ s, s < 4294967296 → (∀ k ∈ l, k < 32) → l.foldl (fun s k => s ||| 1 <<< k) s < 4294967296 := by
 induction l with
 | nil => intro s hs _; exact hs
 | cons x l ih =>
  intro s hs h; have hx := h x (by simp); refine ih _ ?_ (fun k hk => h k (by simp [hk])); refine Nat.or_lt_two_pow (n := 32) (by omega) ?_; rw [Nat.one_shiftLeft]; exact Nat.pow_lt_pow_right (by omega) hx
theorem bits_lt {l : List Nat} (h : ∀ k ∈ l, k < 32) : bits l < 4294967296 := bits_from_lt l 0 (by omega) h
theorem bits_snoc (l : List Nat) (x : Nat) : bits (l ++ [x]) = bits l ||| 1 <<< x := by unfold bits; rw [List.foldl_append]; rfl
theorem has_low (s : Nat) (kind : Int) (w : World) (h : kind < 1) :
 Calls Tryz.prog 43 #[.int .u32 s, .int .i64 kind] w fun e w' => e = .returned (.bool (inSet s kind)) ∧ w = w' := by
 have e : inSet s kind = false := by unfold inSet isKind; simp; omega
 rw [e]; have h1 : decide (1 ≤ kind) = false := by simp; omega
 go_enter Tryz.func43, Tryz.ntmps43
 go_wp2; go_ret; exact ⟨rfl, rfl⟩
theorem has_high (s : Nat) (kind : Int) (w : World) (h : 17 < kind) :
 Calls Tryz.prog 43 #[.int .u32 s, .int .i64 kind] w fun e w' => e = .returned (.bool (inSet s kind)) ∧ w = w' := by
 have e : inSet s kind = false := by unfold inSet isKind; simp; omega
 rw [e]; have h1 : decide (1 ≤ kind) = true := by simp; omega
 have h2 : decide (kind ≤ 17) = false := by simp; omega
 go_enter Tryz.func43, Tryz.ntmps43
 go_wp2; go_ret; exact ⟨rfl, rfl⟩
theorem has_1 (s : Nat) (w : World) (hs : s < 4294967296) :
 Calls Tryz.prog 43 #[.int .u32 s, .int .i64 1] w fun e w' => e = .returned (.bool (s.testBit 1)) ∧ w = w' := by
 go_enter Tryz.func43, Tryz.ntmps43
 go_wp2; go_ret; exact ⟨congrArg (fun b => Ending.returned (.bool b)) (bit_at s 1 2 hs (by decide)), rfl⟩
theorem has_2 (s : Nat) (w : World) (hs : s < 4294967296) :
 Calls Tryz.prog 43 #[.int .u32 s, .int .i64 2] w fun e w' => e = .returned (.bool (s.testBit 2)) ∧ w = w' := by
 go_enter Tryz.func43, Tryz.ntmps43
 go_wp2; go_ret; exact ⟨congrArg (fun b => Ending.returned (.bool b)) (bit_at s 2 4 hs (by decide)), rfl⟩
theorem has_3 (s : Nat) (w : World) (hs : s < 4294967296) :
 Calls Tryz.prog 43 #[.int .u32 s, .int .i64 3] w fun e w' => e = .returned (.bool (s.testBit 3)) ∧ w = w' := by
 go_enter Tryz.func43, Tryz.ntmps43
 go_wp2; go_ret; exact ⟨congrArg (fun b => Ending.returned (.bool b)) (bit_at s 3 8 hs (by decide)), rfl⟩
theorem has_4 (s : Nat) (w : World) (hs : s < 4294967296) :
 Calls Tryz.prog 43 #[.int .u32 s, .int .i64 4] w fun e w' => e = .returned (.bool (s.testBit 4)) ∧ w = w' := by
 go_enter Tryz.func43, Tryz.ntmps43
 go_wp2; go_ret; exact ⟨congrArg (fun b => Ending.returned (.bool b)) (bit_at s 4 16 hs (by decide)), rfl⟩
theorem has_5 (s : Nat) (w : World) (hs : s < 4294967296) :
 Calls Tryz.prog 43 #[.int .u32 s, .int .i64 5] w fun e w' => e = .returned (.bool (s.testBit 5)) ∧ w = w' := by
 go_enter Tryz.func43, Tryz.ntmps43
 go_wp2; go_ret; exact ⟨congrArg (fun b => Ending.returned (.bool b)) (bit_at s 5 32 hs (by decide)), rfl⟩
theorem has_6 (s : Nat) (w : World) (hs : s < 4294967296) :
 Calls Tryz.prog 43 #[.int .u32 s, .int .i64 6] w fun e w' => e = .returned (.bool (s.testBit 6)) ∧ w = w' := by
 go_enter Tryz.func43, Tryz.ntmps43
 go_wp2; go_ret; exact ⟨congrArg (fun b => Ending.returned (.bool b)) (bit_at s 6 64 hs (by decide)), rfl⟩
theorem has_7 (s : Nat) (w : World) (hs : s < 4294967296) :
 Calls Tryz.prog 43 #[.int .u32 s, .int .i64 7] w fun e w' => e = .returned (.bool (s.testBit 7)) ∧ w = w' := by
 go_enter Tryz.func43, Tryz.ntmps43
 go_wp2; go_ret; exact ⟨congrArg (fun b => Ending.returned (.bool b)) (bit_at s 7 128 hs (by decide)), rfl⟩
theorem has_8 (s : Nat) (w : World) (hs : s < 4294967296) :
 Calls Tryz.prog 43 #[.int .u32 s, .int .i64 8] w fun e w' => e = .returned (.bool (s.testBit 8)) ∧ w = w' := by
 go_enter Tryz.func43, Tryz.ntmps43
 go_wp2; go_ret; exact ⟨congrArg (fun b => Ending.returned (.bool b)) (bit_at s 8 256 hs (by decide)), rfl⟩
theorem has_9 (s : Nat) (w : World) (hs : s < 4294967296) :
 Calls Tryz.prog 43 #[.int .u32 s, .int .i64 9] w fun e w' => e = .returned (.bool (s.testBit 9)) ∧ w = w' := by
 go_enter Tryz.func43, Tryz.ntmps43
 go_wp2; go_ret; exact ⟨congrArg (fun b => Ending.returned (.bool b)) (bit_at s 9 512 hs (by decide)), rfl⟩
theorem has_10 (s : Nat) (w : World) (hs : s < 4294967296) :
 Calls Tryz.prog 43 #[.int .u32 s, .int .i64 10] w fun e w' => e = .returned (.bool (s.testBit 10)) ∧ w = w' := by
 go_enter Tryz.func43, Tryz.ntmps43
 go_wp2; go_ret; exact ⟨congrArg (fun b => Ending.returned (.bool b)) (bit_at s 10 1024 hs (by decide)), rfl⟩
theorem has_11 (s : Nat) (w : World) (hs : s < 4294967296) :
 Calls Tryz.prog 43 #[.int .u32 s, .int .i64 11] w fun e w' => e = .returned (.bool (s.testBit 11)) ∧ w = w' := by
 go_enter Tryz.func43, Tryz.ntmps43
 go_wp2; go_ret; exact ⟨congrArg (fun b => Ending.returned (.bool b)) (bit_at s 11 2048 hs (by decide)), rfl⟩
theorem has_12 (s : Nat) (w : World) (hs : s < 4294967296) :
 Calls Tryz.prog 43 #[.int .u32 s, .int .i64 12] w fun e w' => e = .returned (.bool (s.testBit 12)) ∧ w = w' := by
 go_enter Tryz.func43, Tryz.ntmps43
 go_wp2; go_ret; exact ⟨congrArg (fun b => Ending.returned (.bool b)) (bit_at s 12 4096 hs (by decide)), rfl⟩
theorem has_13 (s : Nat) (w : World) (hs : s < 4294967296) :
 Calls Tryz.prog 43 #[.int .u32 s, .int .i64 13] w fun e w' => e = .returned (.bool (s.testBit 13)) ∧ w = w' := by
 go_enter Tryz.func43, Tryz.ntmps43
 go_wp2; go_ret; exact ⟨congrArg (fun b => Ending.returned (.bool b)) (bit_at s 13 8192 hs (by decide)), rfl⟩
theorem has_14 (s : Nat) (w : World) (hs : s < 4294967296) :
 Calls Tryz.prog 43 #[.int .u32 s, .int .i64 14] w fun e w' => e = .returned (.bool (s.testBit 14)) ∧ w = w' := by
 go_enter Tryz.func43, Tryz.ntmps43
 go_wp2; go_ret; exact ⟨congrArg (fun b => Ending.returned (.bool b)) (bit_at s 14 16384 hs (by decide)), rfl⟩
theorem has_15 (s : Nat) (w : World) (hs : s < 4294967296) :
 Calls Tryz.prog 43 #[.int .u32 s, .int .i64 15] w fun e w' => e = .returned (.bool (s.testBit 15)) ∧ w = w' := by
 go_enter Tryz.func43, Tryz.ntmps43
 go_wp2; go_ret; exact ⟨congrArg (fun b => Ending.returned (.bool b)) (bit_at s 15 32768 hs (by decide)), rfl⟩
theorem has_16 (s : Nat) (w : World) (hs : s < 4294967296) :
 Calls Tryz.prog 43 #[.int .u32 s, .int .i64 16] w fun e w' => e = .returned (.bool (s.testBit 16)) ∧ w = w' := by
 go_enter Tryz.func43, Tryz.ntmps43
 go_wp2; go_ret; exact ⟨congrArg (fun b => Ending.returned (.bool b)) (bit_at s 16 65536 hs (by decide)), rfl⟩
theorem has_17 (s : Nat) (w : World) (hs : s < 4294967296) :
 Calls Tryz.prog 43 #[.int .u32 s, .int .i64 17] w fun e w' => e = .returned (.bool (s.testBit 17)) ∧ w = w' := by
 go_enter Tryz.func43, Tryz.ntmps43
 go_wp2; go_ret; exact ⟨congrArg (fun b => Ending.returned (.bool b)) (bit_at s 17 131072 hs (by decide)), rfl⟩
theorem has_calls (s : Nat) (kind : Int) (w : World) (hs : s < 4294967296) :
 Calls Tryz.prog 43 #[.int .u32 s, .int .i64 kind] w fun e w' => e = .returned (.bool (inSet s kind)) ∧ w = w' := by
 by_cases h1 : kind < 1
 · exact has_low s kind w h1
 by_cases h2 : 17 < kind
 · exact has_high s kind w h2
 have hk : isKind kind = true := by unfold isKind; simp; omega
 have e : inSet s kind = s.testBit kind.toNat := by unfold inSet; rw [hk]; rfl
 rw [e]; have hc : kind = 1 ∨ kind = 2 ∨ kind = 3 ∨ kind = 4 ∨ kind = 5 ∨ kind = 6 ∨ kind = 7 ∨ kind = 8 ∨ kind = 9 ∨ kind = 10 ∨ kind = 11 ∨ kind = 12 ∨ kind = 13 ∨ kind = 14 ∨ kind = 15 ∨ kind = 16 ∨ kind = 17 := by omega
 rcases hc with rfl | rfl | rfl | rfl | rfl | rfl | rfl | rfl | rfl | rfl | rfl | rfl | rfl | rfl | rfl | rfl | rfl
 · exact has_1 s w hs
 · exact has_2 s w hs
 · exact has_3 s w hs
 · exact has_4 s w hs
 · exact has_5 s w hs
 · exact has_6 s w hs
 · exact has_7 s w hs
 · exact has_8 s w hs
 · exact has_9 s w hs
 · exact has_10 s w hs
 · exact has_11 s w hs
 · exact has_12 s w hs
 · exact has_13 s w hs
 · exact has_14 s w hs
 · exact has_15 s w hs
 · exact has_16 s w hs
 · exact has_17 s w hs
theorem of_calls (ks : List Nat) (b c : Nat) (w : World) (hk : ∀ k ∈ ks, k < 32) (hc : ∀ j, j < ks.length → w.cell? ⟨b, j, none⟩ = some (.int .i64 (ks.getD j 0))) (hl : ks.length ≤ 100) :
 Calls Tryz.prog 94 #[.slice (some ⟨b, 0, none⟩) ks.length c] w fun e w' => e = .returned (.int .u32 (bits ks : Nat)) ∧ w = w' := by
 go_enter Tryz.func94, Tryz.ntmps94
 go_wp2; go_loop [3, 5, 8] (fun s _ i => ∃ k : Nat, k ≤ ks.length ∧ i = .int .i64 k ∧ s = .int .u32 (bits (ks.take k) : Nat)) (fun _ _ i => ks.length - (intOf i).toNat)
 case atStart => exact ⟨0, Nat.zero_le _, rfl, rfl⟩
 case round =>
  obtain ⟨k, hk1, rfl, rfl⟩ := hrel; by_cases hlt : k < ks.length
  · have hcell := hc k hlt; have hb := hk (ks.getD k 0) (by simp [hlt]); have ht : ks.take (k + 1) = ks.take k ++ [ks.getD k 0] := by rw [List.take_succ_eq_append_getElem hlt]; simp [hlt]
    have hlt2 : bits (ks.take k) < 4294967296 := bits_lt fun x hx => hk x (List.mem_of_mem_take hx)
    have HT := Lib.hid ht; clear hk hc ht; generalize ks.getD k 0 = x at *; have hp : 2 ^ x < 4294967296 := Nat.lt_of_lt_of_le (Nat.pow_lt_pow_right (a := 2) (by omega) hb) (by omega); have HE : Hid (Go.bits .or .u32 (bits (ks.take k) : Nat) (((2 ^ x : Nat) : Int) % 4294967296) = ((bits (ks.take (k + 1)) : Nat) : Int)) := by
     refine Lib.hid ?_; rw [HT.out, bits_snoc, Nat.one_shiftLeft, (fun (p : Nat) (h : p < 4294967296) => by omega : ∀ p : Nat, p < 4294967296 → ((p : Int) % 4294967296) = (p : Int)) _ hp, bits_or_u32_nat _ _ hlt2 hp]
    clear hlt2 hp; go_wp2; go_round
    case rel => refine ⟨k + 1, by omega, by go_num, ?_⟩; rw [← HE.out]; simp
    case measure => simp [intOf]; omega
  · go_wp2; go_ret; refine ⟨?_, rfl⟩; rw [List.take_of_length_le (l := ks) (by omega : ks.length ≤ k)]; rfl
end
section
open Go Go.ChangeShapes Go.WideShapes Go.ChangeAt Go.RowKit
def flatB (P : Program) (t : TypeId) (ts : List Ty) : Bool := match P.underlying t with
 | some (.struct fs) => fs.size == ts.length && P.cellsOf t == ts.length && (List.range ts.length).all fun i => match fs[i]?, ts[i]? with
  | some f, some ty => f.offset == i && P.cellsOf f.type == 1 && (match ty, P.underlying f.type with
   | .I, some (.int .i64) => true
   | .S, some .string => true
   | .B, some .bool => true
   | _, _ => false)
  | _, _ => false
 | _ => false
def toCell : Value → Cell
 | .int _ n => .I n
 | .string s => .S s.data.toList
 | .bool b => .B b
 | _ => .B false
section
variable {H : Type} {enc : TypeId × Value → H} {P : Program} {w : World} {base : Nat} {spare : Nat → Bool} {held : Bool}
theorem open_flat {t : TypeId} {ts : List Ty} (hb : flatB P t ts = true) {fuel : Nat} {cs : List Value} {d : DataW H} {p : List MemPlace} (h : DataW.trod enc P w base spare held fuel t cs = some (d, p))
 (hw : ∀ n ∈ d.weights P t, n ≤ 140737488355328) : ∃ m : Msg, m.map Cell.ty = ts ∧ m.all Cell.ok = true ∧ m.map Cell.v = cs := by
 unfold flatB at hb; cases hu : P.underlying t with
 | none => rw [hu] at hb; cases hb
 | some u =>
  rw [hu] at hb; cases u with
  | struct fs =>
   simp only [Bool.and_eq_true, beq_iff_eq] at hb; obtain ⟨⟨h1, h2⟩, h3⟩ := hb; obtain ⟨xs, n, rfl, hx, hlen, hxl, hf⟩ := DataW.trod_struct hu h; simp only [Prod.mk.injEq] at hx; obtain ⟨hd, _⟩ := hx; have key : ∀ i, i < ts.length → ∃ (c : Cell), cs[i]? = some c.v ∧ ts[i]? = some c.ty ∧ c.ok = true := by
    intro i hi; have h4 := List.all_eq_true.1 h3 i (by simpa using hi); have hfi : i < fs.size := by omega
    have e1 : fs[i]? = some fs[i] := by simp [hfi]
    have e2 : ts[i]? = some ts[i] := by simp [hi]
    rw [e1, e2] at h4; simp only [Bool.and_eq_true, beq_iff_eq] at h4; obtain ⟨⟨o1, o2⟩, o3⟩ := h4; have h5 := hf i _ e1; have hxi : i < xs.length := by omega
    have hci : i < cs.length := by omega
    have e3 : (cs.drop fs[i].offset).take (P.cellsOf fs[i].type) = [cs[i]] := by
     rw [o1, o2, List.drop_eq_getElem_cons hci]; rfl
    have e4 : xs[i]? = some xs[i] := by simp [hxi]
    rw [e3, e4] at h5; have e5 : cs[i]? = some cs[i] := by simp [hci]
    cases hty : ts[i] with
    | I =>
     rw [hty] at o3; cases hui : P.underlying fs[i].type with
     | none => rw [hui] at o3; cases o3
     | some v =>
      rw [hui] at o3; cases v <;> first | (exact absurd o3 Bool.false_ne_true) | skip
      rename_i k
      cases k <;> first | (exact absurd o3 Bool.false_ne_true) | skip
      obtain ⟨z, hz, _, hwf⟩ := DataW.trod_int hui h5; have hz1 : cs[i] = .int .i64 z := by simpa using hz
      refine ⟨.I z, by rw [e5, hz1]; rfl, by rw [e2, hty]; rfl, ?_⟩; have : (decide (-9223372036854775808 ≤ z) && decide (z ≤ 9223372036854775807)) = true := hwf; exact this
    | S =>
     rw [hty] at o3; cases hui : P.underlying fs[i].type with
     | none => rw [hui] at o3; cases o3
     | some v =>
      rw [hui] at o3; cases v <;> first | (exact absurd o3 Bool.false_ne_true) | skip
      obtain ⟨s, hs, hx2, _⟩ := DataW.trod_string hui h5; have hs1 : cs[i] = .string s := by simpa using hs
      refine ⟨.S s.data.toList, by rw [e5, hs1]; rfl, by rw [e2, hty]; rfl, ?_⟩; have hmem : s.data.toList.length ∈ d.weights P t := by
       rw [hd]; have hw1 : DataW.weights P t (.agg (xs.map (·.1))) = DataW.weightsEach P (fs.toList.map (·.type)) (xs.map (·.1)) := by simp [DataW.weights, hu]
       rw [hw1]; refine DataW.weights_mem_each (P := P) (j := i) (t := (fs[i]).type) (d := .lit (.string s.data.toList)) ?_ ?_ _ (by simp [DataW.weights])
       · simp [hfi]
       · simp [hxi, hx2]
      have := hw _ hmem; simpa [Cell.ok] using this
    | B =>
     rw [hty] at o3; cases hui : P.underlying fs[i].type with
     | none => rw [hui] at o3; cases o3
     | some v =>
      rw [hui] at o3; cases v <;> first | (exact absurd o3 Bool.false_ne_true) | skip
      obtain ⟨b, hs, _⟩ := DataW.trod_bool hui h5; have hs1 : cs[i] = .bool b := by simpa using hs
      exact ⟨.B b, by rw [e5, hs1]; rfl, by rw [e2, hty]; rfl, rfl⟩
   have hlc : cs.length = ts.length := by omega
   have hback : ∀ c : Cell, toCell c.v = c := fun c => by cases c <;> rfl
   refine ⟨cs.map toCell, ?_, ?_, ?_⟩
   · apply List.ext_getElem?
     intro i; by_cases hi : i < ts.length
     · obtain ⟨c, k1, k2, k3⟩ := key i hi; simp [k1, k2, hback]
     · rw [List.getElem?_eq_none (by simp; omega), List.getElem?_eq_none (by omega)]
   · rw [List.all_eq_true]; intro c hc; obtain ⟨v, hv, rfl⟩ := List.mem_map.1 hc; obtain ⟨i, hi, e⟩ := List.getElem_of_mem hv; obtain ⟨c, k1, k2, k3⟩ := key i (by omega); have : cs[i]? = some v := by rw [← e]; simp
     rw [k1] at this; rw [← Option.some.inj this, hback]; exact k3
   · apply List.ext_getElem?
     intro i; by_cases hi : i < ts.length
     · obtain ⟨c, k1, k2, k3⟩ := key i hi; simp [k1, hback]
     · rw [List.getElem?_eq_none (by simp; omega), List.getElem?_eq_none (by omega)]
  | _ => exact absurd hb Bool.false_ne_true
end
theorem flat23 : flatB Tryz.prog 23 tys = true := by kernel_rfl
theorem isStr23 : ∃ fs, Tryz.prog.underlying 23 = some (.struct fs) := ⟨_, Tryz.underlying23⟩
theorem open_msg {H : Type} {enc : TypeId × Value → H} {W : World} {base : Nat} {v : Value} {d : DataW H} {p : List MemPlace} (hv : Value.okWide Tryz.prog W .any base 23 v) (h : DataW.Trod enc Tryz.prog W 0 (fun _ => true) true 23 v d p)
 (hw : ∀ n ∈ d.weights Tryz.prog 23, n ≤ 140737488355328) : ∃ m, WT m ∧ v = .agg (msgV m) := by
 obtain ⟨fs, hfs⟩ := isStr23; obtain ⟨cs, rfl, _⟩ := okWide_struct hfs hv; obtain ⟨fuel, hf⟩ := h; obtain ⟨m, h1, h2, h3⟩ := open_flat flat23 hf hw; refine ⟨m, ⟨h1, h2⟩, ?_⟩; have : (msgV m).toList = cs.toList := h3; rw [← Array.toList_inj.1 this]
end
end Go.Proofs.YtdmjinlgdkgoiaaGreatDoor
