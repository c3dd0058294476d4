/- Of the layer fix: WhyBase. -/
import Derived.Test.YtdmjinlgdkgoiaaGreatDoorFkAu
set_option linter.unusedVariables false
set_option linter.unusedSimpArgs false
set_option maxRecDepth 100000
namespace Go.Proofs.YtdmjinlgdkgoiaaGreatDoor
section
open Go Go.RowKit
set_option maxHeartbeats 1600000
structure WhySay (w w' : World) (e : Ending) (x : Int × Int × Msg) : Prop where
 is : e = .returned (.tuple #[.int .i64 x.1, .int .i64 x.2.1, .agg (msgV x.2.2)])
 ext : Ext w w'
 wt : WT x.2.2
theorem results_two_row {P : Program} {fn : Func} {p q r : Tmp} {ty : TypeId} (h : fn.results = #[.tmp p, .tmp q, .cell r ty]) (tmps : Array Value) (w : World) {g : Nat} {t : TypeId} {cs : Array Value} {fr : Nat × Nat} {d : TypeDesc} {x y : Value}
 (hg : w.heap[g]? = some (.cells cs t fr)) (hu : P.underlying ty = some d) (hd : isRows d = true) (hi : (P.info? ty).map (·.size) = some cs.size)
 (hp : tmps[p]?.getD undef = x) (hq : tmps[q]?.getD undef = y) (hr : tmps[r]?.getD undef = .pointer (some ⟨g, 0, none⟩)) : (results fn tmps).run P w = .ok (.tuple #[x, y, .agg cs]) w := by
 have k1 := run_loadVar_row w g t ty cs fr d hg hu (by cases d <;> first | rfl | (exact absurd hd (by simp [isRows]))) hi; simp [results, h, hp, hq, hr, asAddr, k1]
theorem why_ret {w1 : World} {a' : Act} {g : Nat} {x y : Int} {m : Msg} {R : Ending → World → Prop} (hm : WT m) (hb : w1.heap[g]? = some (.cells (msgV m) 23)) (e2 : a'.eval (.tmp 2) = .int .i64 x) (e3 : a'.eval (.tmp 3) = .int .i64 y) (e4 : a'.eval (.tmp 4) = .pointer (some ⟨g, 0, none⟩)) (hd : a'.defers = [])
 (hR : R (.returned (.tuple #[.int .i64 x, .int .i64 y, .agg (msgV m)])) w1) : bodyPost Tryz.prog Tryz.f26 R .ret a' w1 := by
 obtain ⟨d, hd1, hd2⟩ := isStruct23; have hs := msgV_size hm; exact bodyPost_ret (results_two_row rfl a'.tmps w1 hb hd1 hd2 (by rw [hs]; kernel_rfl) (by simpa [Act.eval] using e2) (by simpa [Act.eval] using e3) (by simpa [Act.eval] using e4)) hd hR
end
end Go.Proofs.YtdmjinlgdkgoiaaGreatDoor
