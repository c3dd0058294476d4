/- Of the layer fix: As, WhyBad. -/
import Derived.Test.YtdmjinlgdkgoiaaGreatDoorFmAvA
import Derived.WalkKit
import Derived.LaidEql
import Derived.Stop.Asserts
import Derived.RowKitTokens
set_option linter.unusedVariables false
set_option linter.unusedSimpArgs false
set_option maxRecDepth 100000
namespace Go.Proofs.YtdmjinlgdkgoiaaGreatDoor
section
open Go Go.RowKit Go.Extern.Stop Go.Stop Go.Extern
theorem tas_valueOf27 (t : Addr) (w : World) : (ReflectliteValue.unpack (.iface 118 (.pointer (some t)))).run Tryz.prog w
    = .ok (.agg #[.pointer (some ⟨10, 118, none⟩), .pointer (some ⟨w.heap.size, 0, none⟩), .int .u64 150]) (w.alloc (.cells #[.pointer (some t)] 118)) := by kernel_rfl
theorem tas_type27 (a : Addr) (w : World) : (ReflectliteValue.methodAny (ReflectliteValue.valueError "reflectlite.Value.Type" 0) (fun t _ _ _ => ReflectliteType.toType t) #[.agg #[.pointer (some ⟨10, 118, none⟩), .pointer (some a), .int .u64 150]]).run Tryz.prog w
    = .ok (.iface 249 (.agg #[.pointer (some ⟨10, 118, none⟩)])) w := by kernel_rfl
theorem tas_methodKind (h : Value) (w : World) : (Go.method 470 249 (.agg #[h]) "Kind").run Tryz.prog w = .ok (445, h) w := by kernel_rfl
theorem tas_kind27 (w : World) : ((ReflectliteType.abiMethod fun t => (fun a : Nat => Value.int IntKind.u8 (a : Int)) <$> Rtype.kind t) #[.pointer (some ⟨10, 118, none⟩)]).run Tryz.prog w = .ok (.int .u8 22) w := by kernel_rfl
theorem tas_kind25 (w : World) : ((ReflectliteType.abiMethod fun t => (fun a : Nat => Value.int IntKind.u8 (a : Int)) <$> Rtype.kind t) #[.pointer (some ⟨10, 84, none⟩)]).run Tryz.prog w = .ok (.int .u8 22) w := by kernel_rfl
theorem rlm (z : Sem Value) (f : TypeId → Addr → Nat → Nat → Sem Value) (v : Value) :
    ReflectliteValue.method z f #[v] = (do match ← ReflectliteValue.parts v with | none => z | some (t, a, fl) => f t a fl (fl % 32)) := rfl
theorem tas_parts27 (a : Addr) (w : World) : (ReflectliteValue.parts (.agg #[.pointer (some ⟨10, 118, none⟩), .pointer (some a), .int .u64 150])).run Tryz.prog w = .ok (some (118, a, 150)) w := by kernel_rfl
theorem tas_isNil27 (a p : Addr) (W : World) (ha : W.cell? a = some (.pointer (some p))) :
    (ReflectliteValue.method (ReflectliteValue.valueError "reflectlite.Value.IsNil" 0) ReflectliteValue.isNil #[.agg #[.pointer (some ⟨10, 118, none⟩), .pointer (some a), .int .u64 150]]).run Tryz.prog W = .ok (.bool false) W := by
  rw [rlm]; simp only [Sem.run_bind, tas_parts27, Result.andThen]; simp [ReflectliteValue.isNil, loadVar, isAgg, underlying, Tryz.underlying118, ha, Result.andThen]
theorem tas_methodElem (h : Value) (w : World) : (Go.method 470 249 (.agg #[h]) "Elem").run Tryz.prog w = .ok (458, .agg #[h]) w := by kernel_rfl
theorem tas_methodImplements (h : Value) (w : World) : (Go.method 470 249 (.agg #[h]) "Implements").run Tryz.prog w = .ok (459, .agg #[h]) w := by kernel_rfl
theorem tas_methodAssignableTo (h : Value) (w : World) : (Go.method 470 249 (.agg #[h]) "AssignableTo").run Tryz.prog w = .ok (456, .agg #[h]) w := by kernel_rfl
theorem tas_elem27 (w : World) : (ReflectliteType.method ReflectliteType.elem #[.agg #[.pointer (some ⟨10, 118, none⟩)]]).run Tryz.prog w = .ok (.iface 249 (.agg #[.pointer (some ⟨10, 84, none⟩)])) w := by kernel_rfl
theorem tas_implements25 (w : World) : (ReflectliteType.relation "Implements" ReflectliteType.implements_ #[.agg #[.pointer (some ⟨10, 84, none⟩)], .iface 249 (.agg #[.pointer (some ⟨10, 31, none⟩)])]).run Tryz.prog w = .ok (.bool true) w := by kernel_rfl
theorem tas_typeOf25 (v : Value) (w : World) : (ReflectliteType.typeOf #[.iface 84 v]).run Tryz.prog w = .ok (.iface 249 (.agg #[.pointer (some ⟨10, 84, none⟩)])) w := by kernel_rfl
theorem tas_assignable25 (w : World) : (ReflectliteType.relation "AssignableTo" ReflectliteType.assignableTo #[.agg #[.pointer (some ⟨10, 84, none⟩)], .iface 249 (.agg #[.pointer (some ⟨10, 84, none⟩)])]).run Tryz.prog w = .ok (.bool true) w := by kernel_rfl
theorem tas_valueOf25 (e : Addr) (w : World) : (ReflectliteValue.unpack (.iface 84 (.pointer (some e)))).run Tryz.prog w
    = .ok (.agg #[.pointer (some ⟨10, 84, none⟩), .pointer (some ⟨w.heap.size, 0, none⟩), .int .u64 150]) (w.alloc (.cells #[.pointer (some e)] 84)) := by kernel_rfl
theorem tas_elemOf27 (w : World) : (Rtype.elem? 118).run Tryz.prog w = .ok (some 84) w := by kernel_rfl
theorem tas_mk25 (p : Addr) (w : World) : (ReflectliteValue.mk 84 p ReflectliteValue.flagAddr).run Tryz.prog w = .ok (.agg #[.pointer (some ⟨10, 84, none⟩), .pointer (some p), .int .u64 406]) w := by kernel_rfl
theorem tas_elemV27 (a p : Addr) (W : World) (ha : W.cell? a = some (.pointer (some p))) :
    (ReflectliteValue.method (ReflectliteValue.valueError "reflectlite.Value.Elem" 0) ReflectliteValue.elem #[.agg #[.pointer (some ⟨10, 118, none⟩), .pointer (some a), .int .u64 150]]).run Tryz.prog W
      = .ok (.agg #[.pointer (some ⟨10, 84, none⟩), .pointer (some p), .int .u64 406]) W := by
  rw [rlm]; simp only [Sem.run_bind, tas_parts27, Result.andThen]; simp [ReflectliteValue.elem, loadVar, isAgg, underlying, Tryz.underlying118, ha, Result.andThen, tas_elemOf27, tas_mk25]
theorem rls (v x : Value) : ReflectliteValue.set #[v, x] = (do
    let (some (dst, a, fl), some (src, b, _)) := (← ReflectliteValue.parts v, ← ReflectliteValue.parts x)
      | unsupported (.noEntry "extern/(internal/reflectlite.Value).Set.zeroValue")
    if fl / ReflectliteValue.flagAddr % 2 == 0 then unsupported (.noEntry "extern/(internal/reflectlite.Value).Set.unaddressable")
    let val ← loadVar src b
    if ← Rtype.directlyAssignable dst src then storeVar dst a val
    else if ← Rtype.implements dst src then
      if (← Rtype.kind src) == 20 then
        match val with
        | .nilIface => unsupported (.noEntry "extern/reflectlite: a nil value of one interface type handed on as a value of another")
        | _ => storeVar dst a val
      else storeVar dst a (.iface src val)
    else panicString ("reflectlite.Set: value of type " ++ (← Rtype.spelt src) ++ " is not assignable to type " ++ (← Rtype.spelt dst))
    pure (.tuple #[])) := rfl
theorem tas_parts25a (a : Addr) (w : World) : (ReflectliteValue.parts (.agg #[.pointer (some ⟨10, 84, none⟩), .pointer (some a), .int .u64 406])).run Tryz.prog w = .ok (some (84, a, 406)) w := by kernel_rfl
theorem tas_parts25 (a : Addr) (w : World) : (ReflectliteValue.parts (.agg #[.pointer (some ⟨10, 84, none⟩), .pointer (some a), .int .u64 150])).run Tryz.prog w = .ok (some (84, a, 150)) w := by kernel_rfl
theorem tas_direct25 (w : World) : (Rtype.directlyAssignable 84 84).run Tryz.prog w = .ok true w := by kernel_rfl
theorem tas_set25 (ta b e : Addr) (old : Value) (W : World) (hb : W.cell? b = some (.pointer (some e))) (ht : W.cell? ta = some old) (hf : W.frozen? ta = false) :
    (ReflectliteValue.set #[.agg #[.pointer (some ⟨10, 84, none⟩), .pointer (some ta), .int .u64 406], .agg #[.pointer (some ⟨10, 84, none⟩), .pointer (some b), .int .u64 150]]).run Tryz.prog W
      = .ok (.tuple #[]) (W.setCell ta (.pointer (some e))) := by
  rw [rls]; simp only [Sem.run_bind, tas_parts25a, tas_parts25, Result.andThen]; simp [ReflectliteValue.flagAddr, loadVar, isAgg, underlying, Tryz.underlying84, hb, Result.andThen, tas_direct25, storeVar, Value.cells, storeCells, Addr.add]
  rw [run_store Tryz.prog W ta _ _ (by rfl)]; simp [ht, hf]
set_option maxHeartbeats 4000000 in
theorem as_hit (e t : Addr) (old : Value) (w : World) (hg : w.cell? ⟨0, 0, none⟩ = some (.iface 249 (.agg #[.pointer (some ⟨10, 31, none⟩)]))) (ht0 : w.cell? t = some old) (hf0 : w.frozen? t = false) :
    Calls Tryz.prog 66 #[.iface 84 (.pointer (some e)), .iface 118 (.pointer (some t))] w fun ev w' => ev = .returned (.bool true) ∧ w' = ((((w.alloc (.cells #[.pointer (some t)] 118)).alloc (.cells #[.pointer (some ⟨10, 118, none⟩), .pointer (some ⟨w.heap.size, 0, none⟩), .int .u64 150] 176)).alloc (.cells #[.pointer (some ⟨10, 118, none⟩), .pointer (some ⟨w.heap.size, 0, none⟩), .int .u64 150] 176)).alloc (.cells #[.pointer (some e)] 84)).setCell t (.pointer (some e)) := by
  have h6 := @run_callFunc_extern Tryz.prog 159 _ (fun args => ReflectliteValue.unpack (args.getD 0 (.tuple #[]))) Tryz.func159 (by kernel_rfl) (by kernel_rfl) (by kernel_rfl) (by kernel_rfl); have h7 := @run_callFunc_extern Tryz.prog 160 _ (ReflectliteValue.methodAny (ReflectliteValue.valueError "reflectlite.Value.Type" 0) (fun t _ _ _ => ReflectliteType.toType t)) Tryz.func160 (by kernel_rfl) (by kernel_rfl) (by kernel_rfl) (by kernel_rfl); have h8 := @run_callFunc_extern Tryz.prog 161 _ (ReflectliteValue.method (ReflectliteValue.valueError "reflectlite.Value.IsNil" 0) ReflectliteValue.isNil) Tryz.func161 (by kernel_rfl) (by kernel_rfl) (by kernel_rfl) (by kernel_rfl); have h27 := @run_callFunc_extern Tryz.prog 445 _ (ReflectliteType.abiMethod fun t => do pure (.int .u8 (← Rtype.kind t))) Tryz.func445 (by kernel_rfl) (by kernel_rfl) (by kernel_rfl) (by kernel_rfl); have h37 := @run_callFunc_extern Tryz.prog 458 _ (ReflectliteType.method ReflectliteType.elem) Tryz.func458 (by kernel_rfl) (by kernel_rfl) (by kernel_rfl) (by kernel_rfl); have h38 := @run_callFunc_extern Tryz.prog 459 _ (ReflectliteType.relation "Implements" ReflectliteType.implements_) Tryz.func459 (by kernel_rfl) (by kernel_rfl) (by kernel_rfl) (by kernel_rfl); have h10 := @run_callFunc_extern Tryz.prog 244 _ ReflectliteType.typeOf Tryz.func244 (by kernel_rfl) (by kernel_rfl) (by kernel_rfl) (by kernel_rfl)
  have h35 := @run_callFunc_extern Tryz.prog 456 _ (ReflectliteType.relation "AssignableTo" ReflectliteType.assignableTo) Tryz.func456 (by kernel_rfl) (by kernel_rfl) (by kernel_rfl) (by kernel_rfl); have h11 := @run_callFunc_extern Tryz.prog 245 _ (ReflectliteValue.method (ReflectliteValue.valueError "reflectlite.Value.Elem" 0) ReflectliteValue.elem) Tryz.func245 (by kernel_rfl) (by kernel_rfl) (by kernel_rfl) (by kernel_rfl); have h12 := @run_callFunc_extern Tryz.prog 246 _ ReflectliteValue.set Tryz.func246 (by kernel_rfl) (by kernel_rfl) (by kernel_rfl) (by kernel_rfl); have tO := tas_typeOf25; have mA := tas_methodAssignableTo; have a25 := tas_assignable25; have v25 := tas_valueOf25; have f6 := tas_valueOf27; have f7 := tas_type27; have mK := tas_methodKind; have mE := tas_methodElem; have mI := tas_methodImplements; have k27 := tas_kind27; have k25 := tas_kind25; have e27 := tas_elem27; have i25 := tas_implements25; have n8 := tas_isNil27 ⟨w.heap.size, 0, none⟩ t ((w.alloc (.cells #[.pointer (some t)] 118)).alloc (.cells #[.pointer (some ⟨10, 118, none⟩), .pointer (some ⟨w.heap.size, 0, none⟩), .int .u64 150] 176)) (by simp); have hlt : 0 < w.heap.size := by
    rcases Nat.eq_zero_or_pos w.heap.size with h0 | h
    · simp [World.cell?, h0] at hg
    · exact h
  have hg2 : ((w.alloc (.cells #[.pointer (some t)] 118)).alloc (.cells #[.pointer (some ⟨10, 118, none⟩), .pointer (some ⟨w.heap.size, 0, none⟩), .int .u64 150] 176)).cell? ⟨0, 0, none⟩ = some (.iface 249 (.agg #[.pointer (some ⟨10, 31, none⟩)])) := by
    rw [World.cell?_alloc_lt _ _ ⟨0, 0, none⟩ (by simp), World.cell?_alloc_lt _ _ ⟨0, 0, none⟩ hlt]; exact hg
  have htl : t.block < w.heap.size := by
    rcases Nat.lt_or_ge t.block w.heap.size with h | h
    · exact h
    · simp [World.cell?, Array.getElem?_eq_none h] at ht0
  have el := tas_elemV27 ⟨w.heap.size, 0, none⟩ t (((w.alloc (.cells #[.pointer (some t)] 118)).alloc (.cells #[.pointer (some ⟨10, 118, none⟩), .pointer (some ⟨w.heap.size, 0, none⟩), .int .u64 150] 176)).alloc (.cells #[.pointer (some ⟨10, 118, none⟩), .pointer (some ⟨w.heap.size, 0, none⟩), .int .u64 150] 176)) (by rw [World.cell?_alloc_lt _ _ ⟨w.heap.size, 0, none⟩ (by simp; omega)]; simp); have st := tas_set25 t ⟨w.heap.size + 1 + 1 + 1, 0, none⟩ e old ((((w.alloc (.cells #[.pointer (some t)] 118)).alloc (.cells #[.pointer (some ⟨10, 118, none⟩), .pointer (some ⟨w.heap.size, 0, none⟩), .int .u64 150] 176)).alloc (.cells #[.pointer (some ⟨10, 118, none⟩), .pointer (some ⟨w.heap.size, 0, none⟩), .int .u64 150] 176)).alloc (.cells #[.pointer (some e)] 84))
    (by rw [World.cell?_alloc_at _ _ _ _ (by simp)]; rfl)
    (by rw [World.cell?_alloc_lt _ _ t (by simp; omega), World.cell?_alloc_lt _ _ t (by simp; omega), World.cell?_alloc_lt _ _ t (by simp; omega), World.cell?_alloc_lt _ _ t htl]; exact ht0)
    (by rw [World.frozen?_alloc_old _ _ t (by simp; omega), World.frozen?_alloc_old _ _ t (by simp; omega), World.frozen?_alloc_old _ _ t (by simp; omega), World.frozen?_alloc_old _ _ t (Nat.ne_of_lt htl)]; exact hf0)
  go_enter Tryz.func66, Tryz.ntmps66
  go_wp2; refine wp_loop_rounds 1 ?_; rw [rounds_succ]; go_wp2; go_ret; exact ⟨rfl, rfl⟩
end
section
open Go Go.RowKit
set_option maxHeartbeats 1600000
attribute [local go_sem ↓] loadVarMsg buildMsg0
attribute [local go_sem] ba_get loadRowMsg rowOf_new rowOf_old rowOf_drew
theorem whyBad_calls (s : List UInt8) (A : Option Addr) (cap : Nat) (w : World) (hE : Env w) (hs : s.length ≤ 140737488355328) (hcap : s.length ≤ cap) (hcap2 : cap ≤ 9223372036854775807) (hb : Reads w A s) {f : Int × Int} (hsp : split s = .inr f) (hg : w.cell? ⟨0, 0, none⟩ = some (.iface 249 (.agg #[.pointer (some ⟨10, 31, none⟩)]))) :
    Calls Tryz.prog 26 #[.slice A s.length cap] w fun e w' => WhySay w w' e (-1, 0, noMsg) := by
  have hX1 : Ext w (w.alloc (.cells (msgV noMsg) 23)) := (Ext.refl w).alloc _; have hn1 := heap_alloc_new w (.cells (msgV noMsg) 23); have hsplit := split_calls s A cap (w.alloc (.cells (msgV noMsg) 23)) (hE.ext hX1) hs hcap hcap2 (hb.ext hX1); have hsz0 : (msgV noMsg).size = 42 := by decide
  have hg1 := hX1.cell hg; have HG1 := Lib.hid hg1; have HSZ0 := Lib.hid hsz0; have HX1 := Lib.hid hX1; have HN1 := Lib.hid hn1; have HNOW : RowKit.Hid (WT noMsg) := Lib.hid (by decide); have HSZW : RowKit.Hid (w.heap.size < (w.alloc (.cells (msgV noMsg) 23)).heap.size) := Lib.hid (by simp); rw [hsp] at hsplit; obtain ⟨w1, hw1⟩ : ∃ u, w.alloc (.cells (msgV noMsg) 23) = u := ⟨_, rfl⟩
  have HW1 := Lib.hid hw1; rw [hw1] at hsplit HG1 HX1 HN1 HSZW; have HSPLIT := Lib.hid hsplit; obtain ⟨L, hL⟩ : ∃ n, s.length = n := ⟨_, rfl⟩
  rw [hL] at HSPLIT hs hcap ⊢; clear hX1 hn1 hb hE hsplit hg1 hg hsp hw1 hL; go_enter Tryz.func26, Tryz.ntmps26
  go_wp2_with fail; have hz : w.alloc (.cells (msgV noMsg) 23) = w1 := HW1.out; have hzero : msgV noMsg = #[.int .i64 0, .string ⟨#[]⟩, .string ⟨#[]⟩, .int .i64 0, .bool false, .int .i64 0, .int .i64 0, .int .i64 0, .bool false, .string ⟨#[]⟩, .int .i64 0, .int .i64 0, .int .i64 0, .bool false, .int .i64 0, .int .i64 0, .int .i64 0, .int .i64 0, .string ⟨#[]⟩, .string ⟨#[]⟩, .string ⟨#[]⟩, .string ⟨#[]⟩, .string ⟨#[]⟩, .int .i64 0, .int .i64 0, .int .i64 0, .int .i64 0, .int .i64 0, .int .i64 0, .int .i64 0, .int .i64 0, .int .i64 0, .int .i64 0, .int .i64 0, .int .i64 0, .int .i64 0, .int .i64 0, .int .i64 0, .int .i64 0, .int .i64 0, .int .i64 0, .int .i64 0] := rfl; rw [hzero] at hz; rw [hz]; clear hz hzero; refine HSPLIT.out.mono ?_; rintro e w2 ⟨⟨v, rfl, hv⟩, hE2⟩; obtain ⟨gf, rfl, hgf, hbf⟩ := hv.is; have HE2 := Lib.hid hE2; have HG2 := Lib.hid (hE2.cell HG1.out); clear hv hbf hgf hE2; go_wp2_with fail; have ht := heap_alloc_new w2 (.cells #[.pointer none] 84); obtain ⟨hq, hz⟩ := blk_facts ht; have t0 := hq 0; have z0 := hz 0; have t0 : (w2.alloc (.cells #[.pointer none] 84)).cell? ⟨w2.heap.size, 0, none⟩ = some (.pointer none) := t0.trans rfl; refine (as_hit ⟨gf, 0, none⟩ ⟨w2.heap.size, 0, none⟩ (.pointer none) _ (((Ext.refl w2).alloc _).cell HG2.out) t0 z0).mono ?_; rintro e w3 ⟨rfl, hw3⟩; have hx3 : Ext w1 w3 := by
    rw [hw3]; exact (((((HE2.out.alloc _).alloc _).alloc _).alloc _).alloc _).setCell HE2.out.size _
  have HX3 := Lib.hid (HX1.out.trans hx3); have HN3 := Lib.hid (hx3.heap HN1.out); clear hw3 hx3 ht hq hz t0 z0; have hst2 := run_storeIn HNOW.out HN3.out HSZ0.out; have HX9 := Lib.hid (Ext.setRow' HX3.out (g := w.heap.size) (Nat.le_refl _) (msgV noMsg)); have HN9 := Lib.hid (heap_setRow (cells := msgV noMsg) HN3.out); go_wp2_with fail; refine wp_build0 rfl ?_; go_wp2; exact why_ret HNOW.out HN9.out (by rfl) (by rfl) (by rfl) (by rfl) ⟨rfl, HX9.out, HNOW.out⟩
end
end Go.Proofs.YtdmjinlgdkgoiaaGreatDoor
