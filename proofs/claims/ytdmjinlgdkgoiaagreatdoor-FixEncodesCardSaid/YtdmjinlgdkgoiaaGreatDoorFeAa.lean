/- Of the layer fix: Base, Own, Bytes, Turn. -/
import Derived.WalkKit
import Derived.Orders
import Derived.Below
import Derived.Lib.FrozenHead
import Derived.Maps.AppendAt
import Derived.Lib.ConvBytes
set_option linter.unusedVariables false
set_option linter.unusedSimpArgs false
set_option maxRecDepth 100000
namespace Go.Proofs.YtdmjinlgdkgoiaaGreatDoor
section
open Go Go.RowKit
abbrev Ext (w w' : World) : Prop := Below w.heap.size w w'
theorem Ext.refl (w : World) : Ext w w := Below.refl _ _
theorem Ext.trans {a b c : World} (h : Ext a b) (k : Ext b c) : Ext a c := Below.trans h (Below.mono k h.size)
theorem Ext.alloc {a w : World} (h : Ext a w) (o : Obj) : Ext a (w.alloc o) := Below.alloc h h.size o
theorem Ext.drew {a w : World} (h : Ext a w) : Ext a w.drew := Below.drew h
theorem Ext.heap {a w : World} (h : Ext a w) {k : Nat} {o : Obj} (hk : a.heap[k]? = some o) : w.heap[k]? = some o := by
 rw [h.block k (Array.getElem?_eq_some_iff.1 hk).1]; exact hk
section
variable {P : Program} {ops : Array Oper} {Q : Exit → Act → World → Prop}
def left (l : Array Bool) : Nat := l.toList.countP (fun b => !b)
theorem countP_set (l : List Bool) (i : Nat) (h : l[i]? = some false) : (l.set i true).countP (fun b => !b) + 1 = l.countP (fun b => !b) := by
 induction l generalizing i with
 | nil => simp at h
 | cons x l ih =>
  cases i with
  | zero => simp at h; subst h; simp
  | succ i =>
   simp at h; have := ih i h; simp only [List.set_cons_succ, List.countP_cons]; omega
theorem left_set (l : Array Bool) (i : Nat) (h : l[i]? = some false) : left (l.setIfInBounds i true) + 1 = left l := by
 unfold left; rw [Array.toList_setIfInBounds]; exact countP_set _ _ (by simpa using h)
theorem left_pos (l : Array Bool) (h : 0 < left l) : ∃ i : Nat, l[i]? = some false := by
 unfold left at h; obtain ⟨x, hx, he⟩ := List.countP_pos_iff.1 h; simp at he; subst he; obtain ⟨i, hi⟩ := List.getElem?_of_mem hx; exact ⟨i, by simpa using hi⟩
theorem wpAny_inv (I : (Nat → Bool) → Act → World → Prop)
 (hs : ∀ D a w i o, I D a w → ops[i]? = some o → D i = false → (∀ e ∈ o.after, Region.binds .any e = true → D e.on = true) →
   wpOp P ops Q i (fun a' w' => I (fun k => k == i || D k) a' w') a w)
 (hext : ∀ D D' a w, (∀ k, k < ops.size → D k = D' k) → I D a w → I D' a w)
 (hend : ∀ D a w, I D a w → (∀ i, i < ops.size → D i = true) → Q .normal a w)
 (hacyc : ∀ i o, ops[i]? = some o → ∀ e ∈ o.after, Region.binds .any e = true → e.on < i) :
 ∀ (fuel : Nat) (listed : Array Bool) (a : Act) (w : World), listed.size = ops.size → left listed = fuel → I (fun k => listed.getD k false) a w →
  wpAny P .any ops Q fuel listed a w := by
 have key : ∀ (listed : Array Bool), listed.size = ops.size → Region.ready .any ops listed = [] → left listed = 0 := by
  intro listed hsz hr; by_cases h0 : 0 < left listed
  · exfalso
    obtain ⟨i, hi⟩ := left_pos _ h0; have hex : ∃ i : Nat, listed[i]? = some false := ⟨i, hi⟩
    obtain ⟨j, hj, hmin⟩ : ∃ j : Nat, listed[j]? = some false ∧ ∀ k : Nat, k < j → listed[k]? ≠ some false := by
     clear hr h0
     induction i using Nat.strongRecOn with
     | ind i ih =>
      by_cases hm : ∃ k, k < i ∧ listed[k]? = some false
      · obtain ⟨k, hk, hkf⟩ := hm; exact ih k hk hkf
      · exact ⟨i, hi, fun k hk hkf => hm ⟨k, hk, hkf⟩⟩
    have hjl : j < ops.size := by
     have := (Array.getElem?_eq_some_iff.1 hj).1; omega
    have : j ∈ Region.ready .any ops listed := by
     rw [mem_ready]; refine ⟨by simp [Array.getD_eq_getD_getElem?, hj], ops[j], by simp [hjl], fun e he hb => ?_⟩; have hlt := hacyc j ops[j] (by simp [hjl]) e he hb; have hne := hmin e.on hlt; have hin : e.on < listed.size := by omega
     simp only [Array.getD_eq_getD_getElem?]; cases hq : listed[e.on]? with
     | none => simp at hq; omega
     | some b => cases b with
      | true => rfl
      | false => exact absurd hq hne
    rw [hr] at this; cases this
  · omega
 have alldone : ∀ (listed : Array Bool), listed.size = ops.size → left listed = 0 → ∀ i, i < ops.size → listed.getD i false = true := by
  intro listed hsz h0 i hi; have hin : i < listed.size := by omega
  have hq : listed[i]? = some listed[i] := by simp [hin]
  cases hb : listed[i] with
  | true => simp [Array.getD_eq_getD_getElem?, hin, hb]
  | false =>
   exfalso
   unfold left at h0; have : (false : Bool) ∈ listed.toList := by
    rw [← hb]; simp
   have hp := List.countP_pos_iff (p := fun b => !b).2 ⟨false, this, by rfl⟩; omega
 intro fuel
 induction fuel with
 | zero =>
  intro listed a w hsz h0 hI; refine ⟨?_, hend _ _ _ hI (alldone listed hsz h0)⟩; apply List.eq_nil_iff_forall_not_mem.2
  intro i hi; rw [mem_ready] at hi; obtain ⟨h1, o, ho, _⟩ := hi; have hlt := (Array.getElem?_eq_some_iff.1 ho).1; have := alldone listed hsz h0 i hlt; have hin : i < listed.size := by omega
  simp [Array.getD_eq_getD_getElem?, hin] at h1 this
  rw [h1] at this; cases this
 | succ fuel ih =>
  intro listed a w hsz h0 hI; refine ⟨fun hr => ?_, fun i hi => ?_⟩
  · have := key listed hsz hr; omega
  · rw [mem_ready] at hi; obtain ⟨h1, o, ho, haf⟩ := hi; have hlt := (Array.getElem?_eq_some_iff.1 ho).1; have hin : i < listed.size := by omega
    have hq : listed[i]? = some false := by
     simp [Array.getD_eq_getD_getElem?, hin] at h1 ⊢
     exact h1
    have hstep := hs (fun k => listed.getD k false) a w i o hI ho (by simp [Array.getD_eq_getD_getElem?, hq]) haf; refine wpOp_mono (fun a' w' hI' => ?_) hstep; refine ih _ a' w' (by simpa using hsz) ?_ ?_
    · have := left_set listed i hq; omega
    · refine hext _ _ _ _ (fun k hk => ?_) hI'; have hkl : k < listed.size := by omega
      by_cases hki : k = i
      · subst hki; simp [Array.getD_eq_getD_getElem?, hkl]
      · have : (k == i) = false := by simpa using hki
        rw [this, Bool.false_or]; simp only [Array.getD_eq_getD_getElem?]; rw [Array.getElem?_setIfInBounds_ne (fun e => hki e.symm)]
theorem wp_region_inv {id : Nat} {a : Act} {w : World} (hm : P.follows .mixedOrders = true) (I : (Nat → Bool) → Act → World → Prop)
 (h0 : I (fun _ => false) a w.drew)
 (hs : ∀ D a w i o, I D a w → ops[i]? = some o → D i = false → (∀ e ∈ o.after, Region.binds .any e = true → D e.on = true) →
   wpOp P ops Q i (fun a' w' => I (fun k => k == i || D k) a' w') a w)
 (hext : ∀ D D' a w, (∀ k, k < ops.size → D k = D' k) → I D a w → I D' a w)
 (hend : ∀ D a w, I D a w → (∀ i, i < ops.size → D i = true) → Q .normal a w)
 (hacyc : ∀ i o, ops[i]? = some o → ∀ e ∈ o.after, Region.binds .any e = true → e.on < i) :
 (Code.region id ops true).wp P Q a w := by
 refine wp_region_any hm ?_; refine wpAny_inv I hs hext hend hacyc ops.size _ a _ (by simp) ?_ ?_
 · unfold left; simp [List.countP_replicate]
 · refine hext _ _ _ _ (fun k hk => ?_) h0; simp [Array.getD_eq_getD_getElem?, hk]
theorem wpOps_inv (I : (Nat → Bool) → Act → World → Prop)
 (hs : ∀ D a w i o, I D a w → ops[i]? = some o → D i = false → (∀ e ∈ o.after, Region.binds .any e = true → D e.on = true) →
   wpOp P ops Q i (fun a' w' => I (fun k => k == i || D k) a' w') a w)
 (hext : ∀ D D' a w, (∀ k, k < ops.size → D k = D' k) → I D a w → I D' a w)
 (hend : ∀ D a w, I D a w → (∀ i, i < ops.size → D i = true) → Q .normal a w)
 (hacyc : ∀ i o, ops[i]? = some o → ∀ e ∈ o.after, Region.binds .any e = true → e.on < i) :
 ∀ (n s : Nat) (a : Act) (w : World), s + n = ops.size → I (fun k => decide (k < s)) a w → wpOps P ops Q (List.range' s n) a w := by
 intro n
 induction n with
 | zero =>
  intro s a w hsn hI; exact hend _ _ _ hI fun i hi => by simpa using (by omega : i < s)
 | succ n ih =>
  intro s a w hsn hI; rw [List.range'_succ, wpOps_cons]; have ho : ops[s]? = some (ops[s]'(by omega)) := Array.getElem?_eq_getElem _; refine wpOp_mono (fun a' w' hI' => ih (s + 1) a' w' (by omega) (hext _ _ _ _ (fun k hk => ?_) hI')) (hs _ _ _ s _ hI ho (by simp) fun e he hb => by simpa using hacyc s _ ho e he hb); by_cases h1 : k = s
  · subst h1; simp
  · have : (k == s) = false := by simpa using h1
    rw [this, Bool.false_or]; by_cases h2 : k < s
    · simp [h2]; omega
    · simp [h2]; omega
theorem wp_text_inv {id : Nat} {a : Act} {w : World} (I : (Nat → Bool) → Act → World → Prop)
 (h0 : I (fun _ => false) a w)
 (hs : ∀ D a w i o, I D a w → ops[i]? = some o → D i = false → (∀ e ∈ o.after, Region.binds .any e = true → D e.on = true) →
   wpOp P ops Q i (fun a' w' => I (fun k => k == i || D k) a' w') a w)
 (hext : ∀ D D' a w, (∀ k, k < ops.size → D k = D' k) → I D a w → I D' a w)
 (hend : ∀ D a w, I D a w → (∀ i, i < ops.size → D i = true) → Q .normal a w)
 (hacyc : ∀ i o, ops[i]? = some o → ∀ e ∈ o.after, Region.binds .any e = true → e.on < i) :
 (Code.region id ops false).wp P Q a w := by
 refine wp_region ?_; rw [List.range_eq_range']; exact wpOps_inv I hs hext hend hacyc ops.size 0 a w (by omega) (hext _ _ _ _ (fun k _ => by simp) h0)
def Gives (P : Program) (o : Oper) (ρ : Operand → Value) (w : World) (R : Value → World → Prop) : Prop :=
 match (execOp ρ o).run P w with
 | .ok (.value v) w' => R v w'
 | .ok .skip w' => R undef w'
 | .ok (.enter f args) w' => Calls P f args w' fun e w'' => ∃ v, e = .returned v ∧ R v w''
 | _ => False
theorem gives_call {dst : Option Tmp} {f : FuncId} {l : List Operand} {ats : Array TypeId} {ty : TypeId} {pos : String} {after : Array Edge} {gd : Option (Nat × Bool)} {ρ : Operand → Value} {w : World}
 {R : Value → World → Prop} (he : ∀ args w, (callFunc f args).run P w = .ok (.enter f args) w) (hf : ρ (.func f) = .func (.func f) #[] #[])
 (h : Calls P f (l.map ρ).toArray w fun e w'' => ∃ v, e = .returned v ∧ R v w'') :
 Gives P { dst, op := .call { callee := .value (.func f), args := l.toArray, argTypes := ats }, type := ty, pos, after, guard := gd } ρ w R := by
 unfold Gives; have e : (execOp ρ { dst, op := .call { callee := .value (.func f), args := l.toArray, argTypes := ats }, type := ty, pos, after, guard := gd }).run P w = .ok (.enter f (l.map ρ).toArray) w := by
  simp only [execOp, resolve, hf]; rw [List.map_toArray]; simp [he, Deferred.ofValue, invoke]
 rw [e]; exact h
theorem gives_build {dst : Option Tmp} {t : TypeId} {n : Nat} {parts : Array (Nat × Operand)} {ty : TypeId} {pos : String} {after : Array Edge} {gd : Option (Nat × Bool)} {ρ : Operand → Value} {w : World}
 {R : Value → World → Prop} (v : Value) (w'' : World) (h : (Instr.buildSlice t n (parts.map fun (i, x) => (i, ρ x))).run P w = .ok v w'') (hR : R v w'') :
 Gives P { dst, op := .buildSlice t n parts, type := ty, pos, after, guard := gd } ρ w R := by
 unfold Gives; have e : (execOp ρ { dst, op := .buildSlice t n parts, type := ty, pos, after, guard := gd }).run P w = .ok (.value v) w'' := by
  show (Instr.buildSlice t n (parts.map fun (i, x) => (i, ρ x)) >>= fun v => pure (Next.value v)).run P w = _
  rw [Sem.run_bind, h]; rfl
 rw [e]; exact hR
theorem Gives.wp {o : Oper} {a : Act} {w : World} {R : Value → World → Prop} {K : Act → World → Prop} (h : Gives P o a.eval w R)
 (hK : ∀ v w', R v w' → K (a.put o.dst v) w') : o.wp P a w K Q := by
 unfold Oper.wp; unfold Gives at h; generalize (execOp a.eval o).run P w = r at *; cases r with
 | ok n w' =>
  cases n <;> simp only [Oper.upon] at h ⊢
  case value v => exact hK _ _ h
  case skip => exact hK _ _ h
  case enter f args =>
   refine Calls.mono h fun e w'' he => ?_
   obtain ⟨v, rfl, hr⟩ := he; exact hK _ _ hr
 | halt x w' => cases x <;> exact h.elim
def wantedBy (ops : Array Oper) (ρ : Operand → Value) (o : Oper) : Bool :=
 match o.guard with
 | none => true
 | some (j, want) => match (ops[j]?).bind (·.dst) with
  | some d => match ρ (.tmp d) with
   | .bool b => b == want
   | _ => false
  | none => false
theorem wanted_eq {o : Oper} {a : Act} (hin : ∀ (i : Nat) (o : Oper) d, ops[i]? = some o → o.dst = some d → d < a.tmps.size) :
 Region.wanted o (yielded ops a.tmps) = wantedBy ops a.eval o := by
 unfold Region.wanted wantedBy; cases hg : o.guard with
 | none => rfl
 | some p =>
  obtain ⟨j, want⟩ := p; simp only [yielded]; cases hd : (ops[j]?).bind (·.dst) with
  | none => simp
  | some d =>
   have hlt : d < a.tmps.size := by
    cases ho : ops[j]? with
    | none => simp [ho] at hd
    | some oj => simp [ho] at hd; exact hin j oj d ho hd
   have h1 : a.tmps[d]? = some a.tmps[d] := by simp [hlt]
   simp only [Option.bind_some, h1, Act.eval, Array.getD_eq_getD_getElem?, Option.getD_some]; cases a.tmps[d] <;> simp
theorem wp_region_mono {id : Nat} {dr : Bool} {a : Act} {w : World} (hm : dr = true → P.follows .mixedOrders = true)
 (Post : Nat → Value → World → Prop)
 (hdst : ∀ (i j : Nat) (oi oj : Oper) d, ops[i]? = some oi → ops[j]? = some oj → oi.dst = some d → oj.dst = some d → i = j)
 (hin : ∀ (i : Nat) (o : Oper) d, ops[i]? = some o → o.dst = some d → d < a.tmps.size)
 (hacyc : ∀ i o, ops[i]? = some o → ∀ e ∈ o.after, Region.binds .any e = true → e.on < i)
 (hmono : ∀ i v w w', Post i v w → Ext w w' → Post i v w')
 (hstep : ∀ i o, ops[i]? = some o → ∀ (ρ : Operand → Value) w', Ext w w' →
   (∀ x, (∀ (j : Nat) (oj : Oper) d, ops[j]? = some oj → oj.dst = some d → x ≠ .tmp d) → ρ x = a.eval x) →
   (∀ e ∈ o.after, Region.binds .any e = true → ∀ (oe : Oper) d, ops[e.on]? = some oe → oe.dst = some d → Post e.on (ρ (.tmp d)) w') →
   (wantedBy ops ρ o = true ∧ Gives P o ρ w' (fun v w'' => Ext w' w'' ∧ Post i v w'')) ∨ (wantedBy ops ρ o = false ∧ Post i undef w'))
 (hend : ∀ a' w', Ext w w' → a'.defers = a.defers → a'.tmps.size = a.tmps.size →
   (∀ x, (∀ (j : Nat) (oj : Oper) d, ops[j]? = some oj → oj.dst = some d → x ≠ .tmp d) → a'.eval x = a.eval x) →
   (∀ (i : Nat) (o : Oper) d, ops[i]? = some o → o.dst = some d → Post i (a'.eval (.tmp d)) w') → Q .normal a' w') :
 (Code.region id ops dr).wp P Q a w := by
 have key : ∀ (I : (Nat → Bool) → Act → World → Prop) (h0 : ∀ w', Ext w w' → I (fun _ => false) a w')
     (hs : ∀ D a w i o, I D a w → ops[i]? = some o → D i = false → (∀ e ∈ o.after, Region.binds .any e = true → D e.on = true) →
       wpOp P ops Q i (fun a' w' => I (fun k => k == i || D k) a' w') a w)
     (hext : ∀ D D' a w, (∀ k, k < ops.size → D k = D' k) → I D a w → I D' a w)
     (hend : ∀ D a w, I D a w → (∀ i, i < ops.size → D i = true) → Q .normal a w), (Code.region id ops dr).wp P Q a w := by
  intro I h0 hs hext hend; cases dr with
  | true => exact wp_region_inv (hm rfl) I (h0 _ (Ext.refl w).drew) hs hext hend hacyc
  | false => exact wp_text_inv I (h0 _ (Ext.refl w)) hs hext hend hacyc
 refine key (fun D a' w' => Ext w w' ∧ a'.defers = a.defers ∧ a'.tmps.size = a.tmps.size ∧
  (∀ x, (∀ (j : Nat) (oj : Oper) d, ops[j]? = some oj → oj.dst = some d → x ≠ .tmp d) → a'.eval x = a.eval x) ∧
  (∀ (i : Nat) (o : Oper) d, ops[i]? = some o → D i = true → o.dst = some d → Post i (a'.eval (.tmp d)) w')) ?_ ?_ ?_ ?_
 · exact fun w' hw' => ⟨hw', rfl, rfl, fun _ _ => rfl, fun _ _ _ _ h => by cases h⟩
 · rintro D a' w' i o ⟨h1, h2, h3, h4, h5⟩ ho hD haf; have after : ∀ v w'', Ext w' w'' → Post i v w'' →
       Ext w w'' ∧ (a'.put o.dst v).defers = a.defers ∧ (a'.put o.dst v).tmps.size = a.tmps.size ∧
       (∀ x, (∀ (j : Nat) (oj : Oper) d, ops[j]? = some oj → oj.dst = some d → x ≠ .tmp d) → (a'.put o.dst v).eval x = a.eval x) ∧
       (∀ (j : Nat) (oj : Oper) d, ops[j]? = some oj → (j == i || D j) = true → oj.dst = some d → Post j ((a'.put o.dst v).eval (.tmp d)) w'') := by
    intro v w'' hE hP; refine ⟨h1.trans hE, ?_, ?_, ?_, ?_⟩
    · cases ho' : o.dst <;> simp [Act.put, h2]
    · cases ho' : o.dst <;> simp [Act.put, h3]
    · intro x hx; rw [Act.eval_put (fun d hd => hx i o d ho hd)]; exact h4 x hx
    · intro j oj d hoj hDj hd; by_cases hji : j = i
      · subst hji; have : oj = o := by rw [ho] at hoj; exact (Option.some.inj hoj).symm
        subst this; have hlt := hin j oj d hoj hd; have : (a'.put oj.dst v).eval (.tmp d) = v := by
         simp [Act.eval, Act.put, hd, h3 ▸ hlt]
        rw [this]; exact hP
      · have hne : ∀ d', o.dst = some d' → Operand.tmp d ≠ .tmp d' := fun d' hd' he => by
         cases he
         exact hji (hdst j i oj o d hoj ho hd hd')
        rw [Act.eval_put hne]; have hjD : D j = true := by
         have : (j == i) = false := by simpa using hji
         simpa [this] using hDj
        exact hmono _ _ _ _ (h5 j oj d hoj hjD hd) hE
   unfold wpOp; simp only [ho]; rw [wanted_eq (a := a') (fun i o d ho hd => h3 ▸ hin i o d ho hd)]; rcases hstep i o ho a'.eval w' h1 h4 (fun e he hb oe d hoe hd => h5 e.on oe d hoe (haf e he hb) hd) with ⟨hw, hG⟩ | ⟨hw, hP⟩
   · rw [if_pos hw]; exact .inl (Gives.wp hG fun v w'' ⟨hE, hP⟩ => after v w'' hE hP)
   · rw [hw, if_neg (by simp)]; exact after undef w' (Ext.refl _) hP
 · rintro D D' a' w' hDD ⟨h1, h2, h3, h4, h5⟩; refine ⟨h1, h2, h3, h4, fun i o d ho hD hd => h5 i o d ho ?_ hd⟩; rw [hDD i (Array.getElem?_eq_some_iff.1 ho).1]; exact hD
 · rintro D a' w' ⟨h1, h2, h3, h4, h5⟩ hall; exact hend a' w' h1 h2 h3 h4 fun i o d ho hd => h5 i o d ho (hall i (Array.getElem?_eq_some_iff.1 ho).1) hd
def touched (ops : Array Oper) : Operand → Bool
 | .tmp d => ops.toList.any (fun o => o.dst == some d)
 | _ => false
def regionOk (ops : Array Oper) (n : Nat) : Bool :=
 ((ops.toList.filterMap (·.dst)).all (· < n)) && (ops.toList.filterMap (·.dst)).Nodup &&
 (List.range ops.size).all fun i => ((ops[i]?).map fun o => o.after.all fun e => !Region.binds .any e || e.on < i).getD true
theorem nodup_filterMap {l : List Oper} (h : (l.filterMap (·.dst)).Nodup) : ∀ (i j : Nat) (oi oj : Oper) d, l[i]? = some oi → l[j]? = some oj → oi.dst = some d → oj.dst = some d → i = j := by
 induction l with
 | nil => intro i j oi oj d hi; simp at hi
 | cons x l ih =>
  have hl : (l.filterMap (·.dst)).Nodup := by
   cases hx : x.dst <;> simp [hx] at h
   · exact h
   · exact h.2
  have hno : ∀ (k : Nat) (o : Oper) d, l[k]? = some o → o.dst = some d → x.dst ≠ some d := by
   intro k o d hk hd hx; simp only [List.filterMap_cons, hx, List.nodup_cons] at h; exact h.1 (List.mem_filterMap.2 ⟨o, List.mem_of_getElem? hk, hd⟩)
  intro i j oi oj d hi hj hdi hdj; cases i with
  | zero =>
   cases j with
   | zero => rfl
   | succ j => simp at hi hj; subst hi; exact absurd hdi (hno j oj d hj hdj)
  | succ i =>
   cases j with
   | zero => simp at hi hj; subst hj; exact absurd hdj (hno i oi d hi hdi)
   | succ j => simp at hi hj; rw [ih hl i j oi oj d hi hj hdi hdj]
theorem touched_spec {ops : Array Oper} {x : Operand} (h : touched ops x = false) : ∀ (j : Nat) (oj : Oper) d, ops[j]? = some oj → oj.dst = some d → x ≠ .tmp d := by
 intro j oj d hj hd hx; subst hx; have hm := Array.mem_of_getElem? hj; simp only [touched] at h; have ht : ops.toList.any (fun o => o.dst == some d) = true := by
  rw [List.any_eq_true]; exact ⟨oj, by simpa using hm, by simp [hd]⟩
 rw [h] at ht; cases ht
structure MPost where
 p : Value → World → Prop
 mono : ∀ v w w', p v w → Ext w w' → p v w'
def MPost.is (x : Value) : MPost := ⟨fun v _ => v = x, fun _ _ _ h _ => h⟩
def MPost.any : MPost := ⟨fun _ _ => True, fun _ _ _ h _ => h⟩
def StepsFrom (S : Nat → Oper → Prop) : Nat → List Oper → Prop
 | _, [] => True
 | i, o :: l => S i o ∧ StepsFrom S (i + 1) l
theorem StepsFrom.at {S : Nat → Oper → Prop} : ∀ {l : List Oper} {k : Nat}, StepsFrom S k l → ∀ (i : Nat) (o : Oper), l[i]? = some o → S (k + i) o
 | [], _, _, i, o, h => by simp at h
 | x :: l, k, hs, 0, o, h => by simp at h; subst h; exact hs.1
 | x :: l, k, hs, i + 1, o, h => by
  simp at h; have := StepsFrom.at hs.2 i o h; rw [show k + 1 + i = k + (i + 1) from by omega] at this; exact this
theorem wp_region_steps {id : Nat} {dr : Bool} {a : Act} {w : World} (hm : dr = true → P.follows .mixedOrders = true)
 (posts : List MPost)
 (hok : regionOk ops a.tmps.size = true)
 (hstep : StepsFrom (fun i o => ∀ (ρ : Operand → Value) w', Ext w w' → (∀ x, touched ops x = false → ρ x = a.eval x) →
   (∀ (j : Nat) (d : Tmp), (o.after.toList.any fun e => e.on == j && Region.binds .any e) = true → (ops[j]?).bind (fun o : Oper => o.dst) = some d → ((posts[j]?).getD MPost.any).p (ρ (.tmp d)) w') →
   (wantedBy ops ρ o = true ∧ Gives P o ρ w' (fun v w'' => Ext w' w'' ∧ ((posts[i]?).getD MPost.any).p v w'')) ∨ (wantedBy ops ρ o = false ∧ ((posts[i]?).getD MPost.any).p undef w')) 0 ops.toList)
 (hend : ∀ a' w', Ext w w' → a'.defers = a.defers → a'.tmps.size = a.tmps.size → (∀ x, touched ops x = false → a'.eval x = a.eval x) →
   (∀ (j : Nat) (d : Tmp), (ops[j]?).bind (fun o : Oper => o.dst) = some d → ((posts[j]?).getD MPost.any).p (a'.eval (.tmp d)) w') → Q .normal a' w') :
 (Code.region id ops dr).wp P Q a w := by
 simp only [regionOk, Bool.and_eq_true, List.all_eq_true, decide_eq_true_eq, List.mem_range] at hok; obtain ⟨⟨h1, h2⟩, h3⟩ := hok; refine wp_region_mono hm (fun i v w => ((posts[i]?).getD MPost.any).p v w) ?_ ?_ ?_ ?_ ?_ ?_
 · intro i j oi oj d hi hj; exact nodup_filterMap h2 i j oi oj d (by simpa using hi) (by simpa using hj)
 · intro i o d ho hd; exact h1 d (List.mem_filterMap.2 ⟨o, by simpa using Array.mem_of_getElem? ho, hd⟩)
 · intro i o ho e he hb; have := h3 i (Array.getElem?_eq_some_iff.1 ho).1; simp only [ho, Option.map_some, Option.getD_some, Array.all_eq_true_iff_forall_mem] at this; have := this e he; simpa [hb] using this
 · intro i v w w' hp hE; exact MPost.mono _ v w w' hp hE
 · intro i o ho ρ w' hE hB hD; have hs := StepsFrom.at hstep i o (by simpa using ho); rw [Nat.zero_add] at hs; refine hs ρ w' hE (fun x hx => hB x (touched_spec hx)) ?_; intro j d hj hd; rw [List.any_eq_true] at hj; obtain ⟨e, he, hj⟩ := hj; simp only [Bool.and_eq_true, beq_iff_eq] at hj; obtain ⟨rfl, hb⟩ := hj; have he : e ∈ o.after := by simpa using he
   cases hoe : ops[e.on]? with
   | none => simp [hoe] at hd
   | some oe => exact hD e he hb oe d hoe (by simpa [hoe] using hd)
 · intro a' w' hE h4 h5 hB hP; refine hend a' w' hE h4 h5 (fun x hx => hB x (touched_spec hx)) ?_; intro j d hd; cases hoe : ops[j]? with
   | none => simp [hoe] at hd
   | some oe => exact hP j oe d hoe (by simpa [hoe] using hd)
theorem foldl_set (vs : List (Nat × Value)) : ∀ (t : Array Value), (vs.map (·.1)).Nodup → ∀ k, (vs.foldl (fun t p => t.setIfInBounds p.1 p.2) t)[k]? =
 if k < t.size then (match vs.find? (fun p => p.1 == k) with | some p => some p.2 | none => t[k]?) else none := by
 induction vs with
 | nil => intro t _ k; by_cases hk : k < t.size <;> simp [hk]
 | cons p vs ih =>
  intro t hn k; simp only [List.map_cons, List.nodup_cons] at hn; rw [List.foldl_cons, ih _ hn.2 k, Array.size_setIfInBounds]; by_cases hk : k < t.size
  · rw [if_pos hk, if_pos hk]; by_cases hp : p.1 = k
    · subst hp; have hno : vs.find? (fun q => q.1 == p.1) = none := by
       rw [List.find?_eq_none]; intro q hq he; exact hn.1 (List.mem_map.2 ⟨q, hq, by simpa using he⟩)
      simp [hno, hk]
    · have hp' : (p.1 == k) = false := by simpa using hp
      rw [List.find?_cons, hp']; cases hf : vs.find? (fun q => q.1 == k) with
      | none => simp [Array.getElem?_setIfInBounds_ne hp]
      | some q => simp
  · rw [if_neg hk, if_neg hk]
theorem act_of_posts {a a' : Act} (vs : List (Nat × Value)) (hd : a'.defers = a.defers) (hs : a'.tmps.size = a.tmps.size)
 (hB : ∀ x, touched ops x = false → a'.eval x = a.eval x) (hn : (vs.map (·.1)).Nodup)
 (hc : (List.range a.tmps.size).all (fun k => !touched ops (.tmp k) || vs.any (·.1 == k)) = true)
 (hv : ∀ p ∈ vs, a'.eval (.tmp p.1) = p.2) : a' = ⟨vs.foldl (fun t p => t.setIfInBounds p.1 p.2) a.tmps, a.defers⟩ := by
 obtain ⟨t', d'⟩ := a'; obtain ⟨t, d⟩ := a; simp only at hd hs; subst hd; simp only [Act.mk.injEq, and_true]; refine Array.ext_getElem? fun k => ?_
 rw [foldl_set vs t hn k]; by_cases hk : k < t.size
 · rw [if_pos hk]; have hk' : k < t'.size := by omega
   cases hf : vs.find? (fun p => p.1 == k) with
   | some p =>
    have h1 := List.mem_of_find?_eq_some hf; have h2 := List.find?_some hf; simp only [beq_iff_eq] at h2; have := hv p h1; rw [h2] at this; simp [Act.eval, hk'] at this ⊢
    exact this
   | none =>
    have hall := List.all_eq_true.1 hc k (by simpa using hk); have hno : vs.any (·.1 == k) = false := by
     rw [List.any_eq_false]; intro p hp; exact List.find?_eq_none.1 hf p hp
    rw [hno, Bool.or_false, Bool.not_eq_true'] at hall; have := hB (.tmp k) hall; simp [Act.eval, hk, hk'] at this ⊢
    exact this
 · rw [if_neg hk]; simp; omega
end
theorem lt_of_cell {w : World} {b o : Nat} {v : Value} (h : w.cell? ⟨b, o, none⟩ = some v) : b < w.heap.size := World.block_lt_of_cell? w ⟨b, o, none⟩ h
theorem Ext.cell {a w : World} (h : Ext a w) {b o : Nat} {v : Value} (hc : a.cell? ⟨b, o, none⟩ = some v) : w.cell? ⟨b, o, none⟩ = some v := by
 rw [Below.cell (p := ⟨b, o, none⟩) h (lt_of_cell hc)]; exact hc
def rowOf (w : World) (g : Nat) : Array Value := match w.heap[g]? with | some (.cells c _ _) => c | _ => #[]
theorem rowOf_of {w : World} {g : Nat} {c : Array Value} {t : TypeId} {fr : Nat × Nat} (h : w.heap[g]? = some (.cells c t fr)) : rowOf w g = c := by unfold rowOf; rw [h]
theorem rowOf_new (w : World) (cs : Array Value) (t : Nat) (fr : Nat × Nat) : rowOf (w.alloc (.cells cs t fr)) w.heap.size = cs := rowOf_of (Go.heap_alloc_new w _)
theorem rowOf_old (w : World) (o : Obj) (k : Nat) (h : k < w.heap.size) : rowOf (w.alloc o) k = rowOf w k := by
 unfold rowOf; rw [Below.heap_alloc _ _ _ h]
theorem rowOf_drew (w : World) (k : Nat) : rowOf w.drew k = rowOf w k := rfl
theorem Ext.rowOf {a w : World} (h : Ext a w) {k : Nat} (hk : k < a.heap.size) : rowOf w k = Go.Proofs.YtdmjinlgdkgoiaaGreatDoor.rowOf a k := by
 unfold Go.Proofs.YtdmjinlgdkgoiaaGreatDoor.rowOf; rw [h.block k hk]
theorem rowOf_some {w : World} {g : Nat} (h : (rowOf w g).size ≠ 0) : ∃ t fr, w.heap[g]? = some (.cells (rowOf w g) t fr) := by
 unfold rowOf at *; cases hh : w.heap[g]? with
 | none => simp [hh] at h
 | some o => cases o <;> simp [hh] at h ⊢
def loadRow (t : TypeId) (a : Addr) : Sem Value := loadVar t a
theorem run_loadRow {P : Program} {w : World} {g ty n : Nat} {d : TypeDesc} (hu : P.underlying ty = some d) (hd : (match d with | .struct _ | .array _ _ => true | _ => false) = true)
 (hi : (P.info? ty).map (·.size) = some (n + 1)) (h : (rowOf w g).size = n + 1) : (loadRow ty ⟨g, 0, none⟩).run P w = .ok (.agg (rowOf w g)) w := by
 obtain ⟨t, fr, he⟩ := rowOf_some (w := w) (g := g) (by omega); exact run_loadVar_row w g t ty _ fr d he hu hd (by rw [h]; exact hi)
theorem cell_rowOf {w : World} {g : Nat} {cs : Array Value} (h : rowOf w g = cs) (hz : cs.size ≠ 0) (j : Nat) : w.cell? ⟨g, j, none⟩ = cs[j]? := by
 obtain ⟨t, fr, he⟩ := rowOf_some (w := w) (g := g) (by rw [h]; exact hz); rw [cell_of_row w g j _ t fr he, h]
theorem ba_get (s : List UInt8) (k : Nat) (h : k < (⟨s.toArray⟩ : ByteArray).size) : (⟨s.toArray⟩ : ByteArray)[k]'h = s[k]'(by simpa [ByteArray.size] using h) := rfl
theorem ctK {ops : Array Oper} {a : Act} {ρ : Operand → Value} (hB : ∀ x, touched ops x = false → ρ x = a.eval x) (c : Value) : ρ (.const c) = c := hB (.const c) rfl
theorem fnK {ops : Array Oper} {a : Act} {ρ : Operand → Value} (hB : ∀ x, touched ops x = false → ρ x = a.eval x) (f : FuncId) : ρ (.func f) = .func (.func f) #[] #[] := hB (.func f) rfl
theorem xr0 {w : World} : Ext w w := Ext.refl w
theorem xr1 {w : World} {α : Type} {x : α} : Ext w w ∧ x = x := ⟨Ext.refl w, rfl⟩
end
section
open Go Go.RowKit
def cellsOf (s : List UInt8) : List Value := s.map fun c => Value.int .u8 (c.toNat : Int)
theorem cellsOf_length (s : List UInt8) : (cellsOf s).length = s.length := by simp [cellsOf]
theorem cellsOf_append (s t : List UInt8) : cellsOf (s ++ t) = cellsOf s ++ cellsOf t := by simp [cellsOf]
theorem cellsOf_oneCell (s : List UInt8) : ∀ v ∈ cellsOf s, v.oneCell' = true := by
 intro v hv; obtain ⟨c, _, rfl⟩ := List.mem_map.1 hv; rfl
theorem cellsOf_at {s : List UInt8} {i : Nat} (h : i < s.length) : (cellsOf s)[i]? = some (.int .u8 ((s[i]).toNat : Int)) := by
 simp [cellsOf, h]
structure Own (w : World) (base : Nat) (e : TypeId) (v : Value) (s : List UInt8) : Prop where
 is : ∃ g cap cur fz, v = .slice (some ⟨g, 0, none⟩) s.length cap ∧ base ≤ g ∧ w.heap[g]? = some (.cells cur e fz) ∧ (fz.2 = 0 ∨ cur.size ≤ fz.1) ∧ s.length ≤ cap ∧ cap ≤ maxLen ∧ cur.size = cap ∧ cur.toList.take s.length = cellsOf s
theorem Own.cells {w : World} {base : Nat} {e : TypeId} {v : Value} {s : List UInt8} (h : Own w base e v s) {g n c : Nat} (hv : v = .slice (some ⟨g, 0, none⟩) n c) (i : Nat) (hi : i < s.length) : w.cell? ⟨g, i, none⟩ = some (.int .u8 ((s[i]).toNat : Int)) := by
 obtain ⟨g', cap, cur, fz, rfl, hbg, hg, hfz, hnc, hcm, hcs, htake⟩ := h.is; simp only [Value.slice.injEq, Option.some.injEq, Addr.mk.injEq, and_true] at hv; obtain ⟨rfl, _, _⟩ := hv; have hlt : i < cur.size := by omega
 have h1 : (cur.toList.take s.length)[i]? = some cur[i] := by
  rw [List.getElem?_take, if_pos hi]; simp [hlt]
 rw [htake, cellsOf_at hi] at h1; simp [World.cell?, hg, hlt, ← Option.some.inj h1]
theorem Own.holds {w : World} {base : Nat} {e : TypeId} {v : Value} {s : List UInt8} (h : Own w base e v s) {g n c : Nat} (hv : v = .slice (some ⟨g, 0, none⟩) n c) : ∀ j u, (cellsOf s)[j]? = some u → w.cell? ((⟨g, 0, none⟩ : Addr).add j) = some u := by
 intro j u hj; have hlt : j < s.length := by
  have := (List.getElem?_eq_some_iff.1 hj).1
  rwa [cellsOf_length] at this
 rw [cellsOf_at hlt] at hj; have hadd : (⟨g, 0, none⟩ : Addr).add j = ⟨g, j, none⟩ := by unfold Addr.add; split <;> simp_all
 rw [hadd, ← hj]; exact h.cells hv j hlt
theorem Own.kept {w w' : World} {base : Nat} {e : TypeId} {v : Value} {s : List UInt8} (h : Own w base e v s) (hk : ∀ g, base ≤ g → g < w.heap.size → v.ownBlock = some g → w'.heap[g]? = w.heap[g]?) : Own w' base e v s := by
 obtain ⟨g, cap, cur, fz, rfl, hbg, hg, hrest⟩ := h.is; have hlt : g < w.heap.size := (Array.getElem?_eq_some_iff.1 hg).1; exact ⟨g, cap, cur, fz, rfl, hbg, (hk g hbg hlt rfl).trans hg, hrest⟩
theorem Own.ext {w w' : World} {base : Nat} {e : TypeId} {v : Value} {s : List UInt8} (h : Own w base e v s) (hE : Ext w w') : Own w' base e v s := h.kept fun g _ hl _ => hE.block g hl
theorem Own.form {w : World} {base : Nat} {e : TypeId} {v : Value} {s : List UInt8} (h : Own w base e v s) : ∃ g cap, v = .slice (some ⟨g, 0, none⟩) s.length cap ∧ base ≤ g ∧ g < w.heap.size := by
 obtain ⟨g, cap, cur, fz, rfl, hbg, hg, hrest⟩ := h.is; exact ⟨g, cap, rfl, hbg, (Array.getElem?_eq_some_iff.1 hg).1⟩
theorem Own.block {w : World} {base : Nat} {e : TypeId} {v : Value} {s : List UInt8} (h : Own w base e v s) {k : Nat} (hk : v.ownBlock = some k) : base ≤ k := by
 obtain ⟨g, cap, rfl, hb, _⟩ := h.form; simp only [Value.ownBlock, Option.some.injEq] at hk; omega
theorem Own.more {w : World} {base base' : Nat} {e : TypeId} {v : Value} {s : List UInt8} (h : Own w base e v s) (hb : base' ≤ base) : Own w base' e v s := by
 obtain ⟨g, cap, cur, fz, rfl, hbg, hrest⟩ := h.is; exact ⟨g, cap, cur, fz, rfl, by omega, hrest⟩
theorem own_convert (w : World) (e : TypeId) (s : List UInt8) (hs : s.length ≤ 140737488355328) : Own (Lib.bytesWorld w e ⟨s.toArray⟩) w.heap.size e (.slice (some ⟨w.heap.size, 0, none⟩) s.length (grownCap w s.length 0 e)) s := by
 have hsz : (ByteArray.mk s.toArray).size = s.length := by simp [ByteArray.size]
 have hge := grownCap_ge w s.length 0 e; refine ⟨w.heap.size, _, Lib.bytesCells w e ⟨s.toArray⟩, _, rfl, Nat.le_refl _, Lib.bytesWorld_at_new w e _, .inr (Nat.le_refl _), hge, grownCap_le_maxLen w s.length 0 e (by simp only [maxLen]; omega), ?_, ?_⟩
 · simp only [Lib.bytesCells, hsz, Array.size_append, Array.size_map, Array.size_replicate, List.size_toArray]; omega
 · simp only [Lib.bytesCells, Array.toList_append, Array.toList_map]; rw [List.take_append_of_le_length (by simp)]; simp only [cellsOf]; exact List.take_of_length_le (by simp)
theorem run_storeCells_free (P : Program) (g o : Nat) (t : TypeId) (fz : Nat × Nat) : ∀ (vs : List Value) (i : Nat) (cur : Array Value) (w : World), w.heap[g]? = some (.cells cur t fz) → (fz.2 = 0 ∨ cur.size ≤ fz.1) → o + i + vs.length ≤ cur.size → (∀ v ∈ vs, v.oneCell' = true) →
 (storeCells ⟨g, o, none⟩ vs i).run P w = .ok () (w.setRow g (cur.toList.take (o + i) ++ vs ++ cur.toList.drop (o + i + vs.length)).toArray)
 | [], i, cur, w, hg, _, _, _ => by
  simp only [storeCells, List.append_nil, List.length_nil, Nat.add_zero, List.take_append_drop, Array.toArray_toList]; rw [setRow_self w g cur t fz hg]; rfl
 | v :: rest, i, cur, w, hg, hfz, hl, h1 => by
  have hi : o + i < cur.size := by simp at hl; omega
  have hadd : (⟨g, o, none⟩ : Addr).add i = ⟨g, o + i, none⟩ := by unfold Addr.add; split <;> simp_all
  have hcell : w.cell? ⟨g, o + i, none⟩ = some cur[o + i] := by simp [World.cell?, hg, hi]
  have hfro : w.frozen? ⟨g, o + i, none⟩ = false := by
   obtain ⟨lo, hi'⟩ := fz; simp only at hfz; simp only [World.frozen?, hg]; rw [Bool.eq_false_iff]; simp only [ne_eq, Bool.and_eq_true, decide_eq_true_eq]; omega
  have hst : (store ((⟨g, o, none⟩ : Addr).add i) v).run P w = .ok () (w.setRow g (cur.setIfInBounds (o + i) v)) := by
   rw [hadd, run_store P w _ v _ (h1 v (by simp)), hcell]; simp [hfro, setCell_eq_setRow w g (o + i) cur t fz v hg]
  have ih := run_storeCells_free P g o t fz rest (i + 1) (cur.setIfInBounds (o + i) v) (w.setRow g (cur.setIfInBounds (o + i) v)) (setRow_heap w g cur _ t _ hg) (by simpa using hfz) (by simp at hl ⊢; omega) (fun x hx => h1 x (by simp [hx])); simp only [storeCells, Sem.run_bind, hst, Result.andThen_ok, ih, setRow_setRow]; congr 3
  have e := list_seg_step cur.toList (o + i) v rest (by simp at hl ⊢; omega); simpa [Array.toList_setIfInBounds, Nat.add_assoc] using e
section
variable {P : Program} (w : World) (base : Nat) (t ty e : TypeId) (i : TypeInfo)
theorem own_room {g cap : Nat} {cur : Array Value} {fz : Nat × Nat} {s news : List UInt8} (hbg : base ≤ g) (hg : w.heap[g]? = some (.cells cur e fz)) (hfz : fz.2 = 0 ∨ cur.size ≤ fz.1)
 (hcm : cap ≤ maxLen) (hcs : cur.size = cap) (htake : cur.toList.take s.length = cellsOf s) (hroom : s.length + news.length ≤ cap) :
 Own (w.setRow g (cur.toList.take s.length ++ cellsOf news ++ cur.toList.drop (s.length + (cellsOf news).length)).toArray) base e (.slice (some ⟨g, 0, none⟩) (s.length + news.length) cap) (s ++ news) := by
 refine ⟨g, cap, _, fz, by rw [List.length_append], hbg, setRow_heap w g cur _ e _ hg, ?_, by rw [List.length_append]; exact hroom, hcm, ?_, ?_⟩
 · simp only [List.size_toArray, List.length_append, List.length_take, List.length_drop, Array.length_toList, cellsOf_length]; omega
 · simp only [List.size_toArray, List.length_append, List.length_take, List.length_drop, Array.length_toList, cellsOf_length]; omega
 · rw [htake, ← cellsOf_append, ← cellsOf_length (s ++ news)]; exact List.take_left
theorem own_grown {z : Value} {s news : List UInt8} (hzs : z.cells.size = 1) {old : Nat} (hold : old < s.length + news.length) (h63 : s.length + news.length ≤ maxLen) (hbase : base ≤ w.heap.size) :
 Own (w.drew.alloc (.cells ((cellsOf s).toArray ++ (cellsOf news).toArray ++ Builtin.zeroCells z.cells (grownCap w (s.length + news.length) old e - (s.length + news.length))) e)) base e
  (.slice (some ⟨w.heap.size, 0, none⟩) (s.length + news.length) (grownCap w (s.length + news.length) old e)) (s ++ news) := by
 have hge := grownCap_ge w (s.length + news.length) old e; have hcm : grownCap w (s.length + news.length) old e ≤ maxLen := grownCap_le_maxLen w (s.length + news.length) old e h63; refine ⟨w.heap.size, _, _, (0, 0), by rw [List.length_append], hbase, heap_alloc_new w.drew _, .inl rfl, by rw [List.length_append]; exact hge, hcm, ?_, ?_⟩
 · simp only [Array.size_append, List.size_toArray, size_zeroCells, hzs, cellsOf_length]; omega
 · simp only [Array.toList_append, List.append_assoc]; rw [← List.append_assoc, ← cellsOf_append, ← cellsOf_length (s ++ news)]; exact List.take_left
theorem run_append_own_slice (ht : P.underlying t = some (.slice e)) (hi : P.info? e = some i) {z : Value} (hz : i.zero = some z) (hsize : i.size = 1) (hby : i.bytes = 1) (hzs : z.cells.size = 1)
 (v : Value) (s : List UInt8) (hown : Own w base e v s) (a : Addr) (c : Nat) (news : List UInt8) (hnews : ∀ j u, (cellsOf news)[j]? = some u → w.cell? (a.add j) = some u)
 (hbytes : s.length + news.length ≤ 140737488355328) (hbase : base ≤ w.heap.size) :
 ∃ v' w', (Builtin.append_ #[t, t] ty #[v, .slice (some a) news.length c]).run P w = .ok v' w' ∧ Own w' base e v' (s ++ news) ∧ w.grownBy w' v.ownBlock := by
 obtain ⟨g, cap, cur, fz, rfl, hbg, hg, hfz, hnc, hcm, hcs, htake⟩ := hown.is; have h63 : s.length + news.length ≤ maxLen := by simp only [maxLen]; omega
 by_cases hroom : s.length + news.length ≤ cap
 · have hf := run_firstCells_some (P := P) w i.size news.length a news.length c (cellsOf news) (by rw [hsize, cellsOf_length]; omega) hnews; have hst := run_storeCells_free P g s.length e fz (cellsOf news) 0 cur w hg hfz (by rw [cellsOf_length]; omega) (cellsOf_oneCell news); simp only [Nat.add_zero] at hst; have hr : (Builtin.append_ #[t, t] ty #[.slice (some ⟨g, 0, none⟩) s.length cap, .slice (some a) news.length c]).run P w = .ok (.slice (some ⟨g, 0, none⟩) (s.length + news.length) cap) (w.setRow g (cur.toList.take s.length ++ cellsOf news ++ cur.toList.drop (s.length + (cellsOf news).length)).toArray) := by
    simp only [hsize] at hf; simp [Builtin.append_, run_underlying ht, sizeOf, typeInfo, hi, hsize, Builtin.lenOf, hroom, hf, Addr.add_lit, hst]
   exact ⟨_, _, hr, own_room w base e hbg hg hfz hcm hcs htake hroom, ⟨rfl, rfl, rfl, by simp, fun k _ hk => setRow_other w g k _ (fun e => hk (by simp [Value.ownBlock, e]))⟩⟩
 · have hr := run_append_grow (P := P) w t ty e i z ht hi hz ⟨g, 0, none⟩ s.length cap (cellsOf s) (by rw [hsize, cellsOf_length]; omega) (hown.holds rfl) a news.length c (cellsOf news) (by rw [hsize, cellsOf_length]; omega) hnews (by omega) (by omega) (by rw [hby]; exact growslice_fits (by omega) (by omega)); exact ⟨_, _, hr, own_grown w base e hzs (by omega) h63 hbase, ⟨rfl, rfl, rfl, by simp, fun k hk _ => Below.heap_alloc w.drew _ k hk⟩⟩
theorem run_append_own_text (u : TypeId) (ht : P.underlying t = some (.slice e)) (hu : P.underlying u = some .string) (hi : P.info? e = some i) (hz : i.zero = some (.int .u8 0)) (hsize : i.size = 1) (hby : i.bytes = 1)
 (v : Value) (s : List UInt8) (hown : Own w base e v s) (news : List UInt8)
 (hbytes : s.length + news.length ≤ 140737488355328) (hbase : base ≤ w.heap.size) :
 ∃ v' w', (Builtin.append_ #[t, u] ty #[v, .string ⟨news.toArray⟩]).run P w = .ok v' w' ∧ Own w' base e v' (s ++ news) ∧ w.grownBy w' v.ownBlock := by
 have hh := fun g n c => hown.holds (g := g) (n := n) (c := c)
 obtain ⟨g, cap, cur, fz, rfl, hbg, hg, hfz, hnc, hcm, hcs, htake⟩ := hown.is; have h63 : s.length + news.length ≤ maxLen := by simp only [maxLen]; omega
 have hsz : (ByteArray.mk news.toArray).size = news.length := by simp [ByteArray.size]
 have hcl : Lib.strCells ⟨news.toArray⟩ = cellsOf news := by simp [Lib.strCells, cellsOf]
 by_cases hroom : s.length + news.length ≤ cap
 · have hf := Lib.run_firstCells_string (P := P) w 1 ⟨news.toArray⟩; have hst := run_storeCells_free P g s.length e fz (cellsOf news) 0 cur w hg hfz (by rw [cellsOf_length]; omega) (cellsOf_oneCell news); simp only [Nat.add_zero] at hst; rw [hcl, hsz] at hf; have hr : (Builtin.append_ #[t, u] ty #[.slice (some ⟨g, 0, none⟩) s.length cap, .string ⟨news.toArray⟩]).run P w = .ok (.slice (some ⟨g, 0, none⟩) (s.length + news.length) cap) (w.setRow g (cur.toList.take s.length ++ cellsOf news ++ cur.toList.drop (s.length + (cellsOf news).length)).toArray) := by
    simp [Builtin.append_, run_underlying ht, run_underlying hu, sizeOf, typeInfo, hi, hsize, Builtin.lenOf, hroom, hf, Addr.add_lit, hst, hsz]
   exact ⟨_, _, hr, own_room w base e hbg hg hfz hcm hcs htake hroom, ⟨rfl, rfl, rfl, by simp, fun k _ hk => setRow_other w g k _ (fun e => hk (by simp [Value.ownBlock, e]))⟩⟩
 · have hr := Lib.run_append_grow_string (P := P) w t u ty e i (.int .u8 0) ht hu hi hz ⟨g, 0, none⟩ s.length cap (cellsOf s) (by rw [hsize, cellsOf_length]; omega) (hh g s.length cap rfl) ⟨news.toArray⟩ (by omega) (by omega) (by rw [hby]; exact growslice_fits (by omega) (by omega)); rw [hcl, hsz] at hr; exact ⟨_, _, hr, own_grown w base e rfl (by omega) h63 hbase, ⟨rfl, rfl, rfl, by simp, fun k hk _ => Below.heap_alloc w.drew _ k hk⟩⟩
theorem wpList_own_slice {ops : Array Oper} {rest : List Oper} {o : Oper} {a : Act} {Q : Exit → Act → World → Prop} (hgd : o.guard = none) (sl x : Operand)
 (ho : o.op = .call { callee := .builtin .append, args := #[sl, x], argTypes := #[t, t] }) (ht : P.underlying t = some (.slice e)) (hi : P.info? e = some i) {z : Value} (hz : i.zero = some z) (hsize : i.size = 1) (hby : i.bytes = 1) (hzs : z.cells.size = 1)
 (v : Value) (s : List UInt8) (hs : a.eval sl = v) (hown : Own w base e v s) (ad : Addr) (c : Nat) (news : List UInt8) (hx : a.eval x = .slice (some ad) news.length c) (hnews : ∀ j u, (cellsOf news)[j]? = some u → w.cell? (ad.add j) = some u)
 (hbytes : s.length + news.length ≤ 140737488355328) (hbase : base ≤ w.heap.size)
 (h : ∀ v' w', Own w' base e v' (s ++ news) → w.grownBy w' v.ownBlock → wpList P ops Q rest (a.put o.dst v') w') : wpList P ops Q (o :: rest) a w := by
 refine wpList_plain hgd fun K hK => ?_
 obtain ⟨v', w', hr, h2, h3⟩ := run_append_own_slice (P := P) w base t o.type e i ht hi hz hsize hby hzs v s hown ad c news hnews hbytes hbase; unfold Oper.wp execOp; simp only [ho, resolve, invoke, builtin, Sem.run_bind, Sem.run_pure, Result.andThen_ok, List.map_toArray, List.map_cons, List.map_nil, hs, hx, hr]; exact hK _ _ (h v' w' h2 h3)
theorem wpList_own_text {ops : Array Oper} {rest : List Oper} {o : Oper} {a : Act} {Q : Exit → Act → World → Prop} (hgd : o.guard = none) (sl x : Operand) (u : TypeId)
 (ho : o.op = .call { callee := .builtin .append, args := #[sl, x], argTypes := #[t, u] }) (ht : P.underlying t = some (.slice e)) (hu : P.underlying u = some .string) (hi : P.info? e = some i) (hz : i.zero = some (.int .u8 0)) (hsize : i.size = 1) (hby : i.bytes = 1)
 (v : Value) (s : List UInt8) (hs : a.eval sl = v) (hown : Own w base e v s) (news : List UInt8) (hx : a.eval x = .string ⟨news.toArray⟩)
 (hbytes : s.length + news.length ≤ 140737488355328) (hbase : base ≤ w.heap.size)
 (h : ∀ v' w', Own w' base e v' (s ++ news) → w.grownBy w' v.ownBlock → wpList P ops Q rest (a.put o.dst v') w') : wpList P ops Q (o :: rest) a w := by
 refine wpList_plain hgd fun K hK => ?_
 obtain ⟨v', w', hr, h2, h3⟩ := run_append_own_text (P := P) w base t o.type e i u ht hu hi hz hsize hby v s hown news hbytes hbase; unfold Oper.wp execOp; simp only [ho, resolve, invoke, builtin, Sem.run_bind, Sem.run_pure, Result.andThen_ok, List.map_toArray, List.map_cons, List.map_nil, hs, hx, hr]; exact hK _ _ (h v' w' h2 h3)
end
end
section
open Go Go.RowKit
theorem add_add (a : Addr) (i j : Nat) : (a.add i).add j = a.add (i + j) := by
 unfold Addr.add; by_cases hi : i = 0 <;> by_cases hj : j = 0 <;> simp [hi, hj, Nat.add_assoc]
theorem Ext.cellA {a w : World} (h : Ext a w) {p : Addr} {v : Value} (hc : a.cell? p = some v) : w.cell? p = some v := by
 rw [Below.cell h (World.block_lt_of_cell? a p hc)]; exact hc
structure Reads (w : World) (A : Option Addr) (s : List UInt8) : Prop where
 is : 0 < s.length → ∃ ad, A = some ad ∧ ∀ (i : Nat) (h : i < s.length), w.cell? (ad.add i) = some (.int .u8 ((s[i]).toNat : Int))
theorem Reads.none_ (w : World) : Reads w none [] := ⟨fun h => by simp at h⟩
theorem Reads.at {w : World} {A : Option Addr} {s : List UInt8} (h : Reads w A s) {i : Nat} (hi : i < s.length) : ∃ ad, A = some ad ∧ w.cell? (ad.add i) = some (.int .u8 ((s[i]).toNat : Int)) := by
 obtain ⟨ad, e, hc⟩ := h.is (by omega); exact ⟨ad, e, hc i hi⟩
theorem Reads.ext {w w' : World} {A : Option Addr} {s : List UInt8} (h : Reads w A s) (hE : Ext w w') : Reads w' A s := ⟨fun hp => by
 obtain ⟨ad, e, hc⟩ := h.is hp; exact ⟨ad, e, fun i hi => hE.cellA (hc i hi)⟩⟩
theorem Reads.take {w : World} {A : Option Addr} {s : List UInt8} (h : Reads w A s) (n : Nat) : Reads w A (s.take n) := ⟨fun hp => by
 have hp' : 0 < s.length := by rw [List.length_take] at hp; omega
 obtain ⟨ad, e, hc⟩ := h.is hp'; refine ⟨ad, e, fun i hi => ?_⟩; rw [List.length_take] at hi; rw [List.getElem_take]; exact hc i (by omega)⟩
theorem Reads.drop {w : World} {A : Option Addr} {s : List UInt8} (h : Reads w A s) {n cap : Nat} (hc : s.length ≤ cap) : Reads w (if cap = n then A else A.map (·.add n)) (s.drop n) := ⟨fun hp => by
 rw [List.length_drop] at hp; obtain ⟨ad, rfl, hcell⟩ := h.is (by omega); rw [if_neg (by omega)]; refine ⟨ad.add n, rfl, fun i hi => ?_⟩; rw [List.length_drop] at hi; rw [add_add, List.getElem_drop]; exact hcell (n + i) (by omega)⟩
theorem Reads.of_own {w : World} {base : Nat} {e : TypeId} {A : Option Addr} {n c : Nat} {s : List UInt8} (h : Own w base e (.slice A n c) s) : Reads w A s := ⟨fun hp => by
 obtain ⟨g, cap, hv, hb, hl⟩ := h.form; simp only [Value.slice.injEq] at hv; obtain ⟨rfl, _, _⟩ := hv; refine ⟨_, rfl, fun i hi => ?_⟩; have hadd : (⟨g, 0, none⟩ : Addr).add i = ⟨g, i, none⟩ := by unfold Addr.add; split <;> simp_all
 rw [hadd]; exact h.cells rfl i hi⟩
theorem Reads.of_block {w : World} {b off : Nat} {s : List UInt8} (h : ∀ (i : Nat) (h : i < s.length), w.cell? ⟨b, off + i, none⟩ = some (.int .u8 ((s[i]).toNat : Int))) : Reads w (some ⟨b, off, none⟩) s := ⟨fun hp => by
 refine ⟨_, rfl, fun i hi => ?_⟩; have hadd : (⟨b, off, none⟩ : Addr).add i = ⟨b, off + i, none⟩ := by unfold Addr.add; split <;> simp_all
 rw [hadd]; exact h i hi⟩
end
section
open Go Go.RowKit
section
variable {P : Program} {ops : Array Oper} {Q : Exit → Act → World → Prop}
def aheadOf (ops : Array Oper) : Nat → Nat → Nat → Bool
 | 0, _, _ => false
 | n + 1, p, i => match ops[p]? with
  | some o => o.after.toList.any fun e => Region.binds .any e && (e.on == i || aheadOf ops n e.on i)
  | none => false
theorem aheadOf_done {D : Nat → Bool} (hD : ∀ i o, ops[i]? = some o → D i = true → ∀ e ∈ o.after, Region.binds .any e = true → D e.on = true) :
 ∀ (n p i : Nat), D p = true → aheadOf ops n p i = true → D i = true
 | 0, _, _, _, h => by simp [aheadOf] at h
 | n + 1, p, i, hp, h => by
  unfold aheadOf at h; cases ho : ops[p]? with
  | none => simp [ho] at h
  | some o =>
   simp only [ho, List.any_eq_true, Bool.and_eq_true, Bool.or_eq_true, beq_iff_eq] at h; obtain ⟨e, he, hb, hor⟩ := h; have hd := hD p o ho hp e (by simpa using he) hb; rcases hor with rfl | h
   · exact hd
   · exact aheadOf_done hD n e.on i hd h
def VPost : Option Value → Value → Prop
 | none, _ => True
 | some x, v => v = x
theorem wp_region_turn {id : Nat} {dr : Bool} {a : Act} {w : World} (hm : dr = true → P.follows .mixedOrders = true) (p : Nat) (S : World → Prop)
 (posts : List (Option Value))
 (hok : regionOk ops a.tmps.size = true)
 (hstep : StepsFrom (fun i o => ∀ (ρ : Operand → Value) w', (∀ x, touched ops x = false → ρ x = a.eval x) →
   (∀ (j : Nat) (d : Tmp), (o.after.toList.any fun e => e.on == j && Region.binds .any e) = true → (ops[j]?).bind (fun o : Oper => o.dst) = some d → VPost ((posts[j]?).getD none) (ρ (.tmp d))) →
   (Ext w w' → (wantedBy ops ρ o = true ∧ Gives P o ρ w' (fun v w'' => (bif i == p then S w'' else Ext w' w'') ∧ VPost ((posts[i]?).getD none) v)) ∨ ((i == p) = false ∧ wantedBy ops ρ o = false ∧ VPost ((posts[i]?).getD none) undef)) ∧
   (((i == p) || aheadOf ops ops.size p i) = false → S w' → (wantedBy ops ρ o = true ∧ Gives P o ρ w' (fun v w'' => S w'' ∧ VPost ((posts[i]?).getD none) v)) ∨ (wantedBy ops ρ o = false ∧ VPost ((posts[i]?).getD none) undef))) 0 ops.toList)
 (hp : p < ops.size)
 (hend : ∀ a' w', S w' → a'.defers = a.defers → a'.tmps.size = a.tmps.size → (∀ x, touched ops x = false → a'.eval x = a.eval x) →
   (∀ (j : Nat) (d : Tmp), (ops[j]?).bind (fun o : Oper => o.dst) = some d → VPost ((posts[j]?).getD none) (a'.eval (.tmp d))) → Q .normal a' w') :
 (Code.region id ops dr).wp P Q a w := by
 simp only [regionOk, Bool.and_eq_true, List.all_eq_true, decide_eq_true_eq, List.mem_range] at hok; obtain ⟨⟨h1, h2⟩, h3⟩ := hok; have hdst : ∀ (i j : Nat) (oi oj : Oper) d, ops[i]? = some oi → ops[j]? = some oj → oi.dst = some d → oj.dst = some d → i = j := by
  intro i j oi oj d hi hj; exact nodup_filterMap h2 i j oi oj d (by simpa using hi) (by simpa using hj)
 have hin : ∀ (i : Nat) (o : Oper) d, ops[i]? = some o → o.dst = some d → d < a.tmps.size := by
  intro i o d ho hd; exact h1 d (List.mem_filterMap.2 ⟨o, by simpa using Array.mem_of_getElem? ho, hd⟩)
 have hacyc : ∀ i o, ops[i]? = some o → ∀ e ∈ o.after, Region.binds .any e = true → e.on < i := by
  intro i o ho e he hb; have := h3 i (Array.getElem?_eq_some_iff.1 ho).1; simp only [ho, Option.map_some, Option.getD_some, Array.all_eq_true_iff_forall_mem] at this; have := this e he; simpa [hb] using this
 have key : ∀ (I : (Nat → Bool) → Act → World → Prop) (h0 : ∀ w', Ext w w' → I (fun _ => false) a w')
     (hs : ∀ D a w i o, I D a w → ops[i]? = some o → D i = false → (∀ e ∈ o.after, Region.binds .any e = true → D e.on = true) →
       wpOp P ops Q i (fun a' w' => I (fun k => k == i || D k) a' w') a w)
     (hext : ∀ D D' a w, (∀ k, k < ops.size → D k = D' k) → I D a w → I D' a w)
     (hend : ∀ D a w, I D a w → (∀ i, i < ops.size → D i = true) → Q .normal a w), (Code.region id ops dr).wp P Q a w := by
  intro I h0 hs hext hend; cases dr with
  | true => exact wp_region_inv (hm rfl) I (h0 _ (Ext.refl w).drew) hs hext hend hacyc
  | false => exact wp_text_inv I (h0 _ (Ext.refl w)) hs hext hend hacyc
 refine key (fun D a' w' => ((D p = false ∧ Ext w w') ∨ (D p = true ∧ S w')) ∧
  (∀ i o, ops[i]? = some o → D i = true → ∀ e ∈ o.after, Region.binds .any e = true → D e.on = true) ∧
  a'.defers = a.defers ∧ a'.tmps.size = a.tmps.size ∧
  (∀ x, (∀ (j : Nat) (oj : Oper) d, ops[j]? = some oj → oj.dst = some d → x ≠ .tmp d) → a'.eval x = a.eval x) ∧
  (∀ (i : Nat) (o : Oper) d, ops[i]? = some o → D i = true → o.dst = some d → VPost ((posts[i]?).getD none) (a'.eval (.tmp d)))) ?_ ?_ ?_ ?_
 · exact fun w' hw' => ⟨.inl ⟨rfl, hw'⟩, (fun _ _ _ (h : false = true) => Bool.noConfusion h), rfl, rfl, fun _ _ => rfl, (fun _ _ _ _ (h : false = true) => Bool.noConfusion h)⟩
 · rintro D a' w' i o ⟨hph, hcl, hd2, hd3, hd4, hd5⟩ ho hDi haf; have hi : i < ops.size := (Array.getElem?_eq_some_iff.1 ho).1; have after : ∀ v w'', (((i == p) || D p) = false ∧ Ext w w'' ∨ ((i == p) || D p) = true ∧ S w'') → VPost ((posts[i]?).getD none) v →
       ((((p == i) || D p) = false ∧ Ext w w'') ∨ (((p == i) || D p) = true ∧ S w'')) ∧
       (∀ j oj, ops[j]? = some oj → (j == i || D j) = true → ∀ e ∈ oj.after, Region.binds .any e = true → (e.on == i || D e.on) = true) ∧
       (a'.put o.dst v).defers = a.defers ∧ (a'.put o.dst v).tmps.size = a.tmps.size ∧
       (∀ x, (∀ (j : Nat) (oj : Oper) d, ops[j]? = some oj → oj.dst = some d → x ≠ .tmp d) → (a'.put o.dst v).eval x = a.eval x) ∧
       (∀ (j : Nat) (oj : Oper) d, ops[j]? = some oj → (j == i || D j) = true → oj.dst = some d → VPost ((posts[j]?).getD none) ((a'.put o.dst v).eval (.tmp d))) := by
    intro v w'' hS hP; refine ⟨?_, ?_, ?_, ?_, ?_, ?_⟩
    · rw [show (p == i) = (i == p) from BEq.comm]; exact hS
    · intro j oj hoj hDj e he hb; by_cases hji : j = i
      · subst hji; have : oj = o := by rw [ho] at hoj; exact (Option.some.inj hoj).symm
        subst this; rw [haf e he hb, Bool.or_true]
      · have : (j == i) = false := by simpa using hji
        rw [this, Bool.false_or] at hDj; rw [hcl j oj hoj hDj e he hb, Bool.or_true]
    · cases ho' : o.dst <;> simp [Act.put, hd2]
    · cases ho' : o.dst <;> simp [Act.put, hd3]
    · intro x hx; rw [Act.eval_put (fun d hd => hx i o d ho hd)]; exact hd4 x hx
    · intro j oj d hoj hDj hd; by_cases hji : j = i
      · subst hji; have : oj = o := by rw [ho] at hoj; exact (Option.some.inj hoj).symm
        subst this; have hlt := hin j oj d hoj hd; have : (a'.put oj.dst v).eval (.tmp d) = v := by
         simp [Act.eval, Act.put, hd, hd3 ▸ hlt]
        rw [this]; exact hP
      · have hne : ∀ d', o.dst = some d' → Operand.tmp d ≠ .tmp d' := fun d' hd' he => by
         cases he
         exact hji (hdst j i oj o d hoj ho hd hd')
        rw [Act.eval_put hne]; have hjD : D j = true := by
         have : (j == i) = false := by simpa using hji
         simpa [this] using hDj
        exact hd5 j oj d hoj hjD hd
   have hs := StepsFrom.at hstep i o (by simpa using ho); rw [Nat.zero_add] at hs; have hs := hs a'.eval w' (fun x hx => hd4 x (touched_spec hx)) (by
    intro j d hj hd; rw [List.any_eq_true] at hj; obtain ⟨e, he, hj⟩ := hj; simp only [Bool.and_eq_true, beq_iff_eq] at hj; obtain ⟨rfl, hb⟩ := hj; have he : e ∈ o.after := by simpa using he
    cases hoe : ops[e.on]? with
    | none => simp [hoe] at hd
    | some oe => exact hd5 e.on oe d hoe (haf e he hb) (by simpa [hoe] using hd))
   unfold wpOp; simp only [ho]; rw [wanted_eq (a := a') (fun i o d ho hd => hd3 ▸ hin i o d ho hd)]; rcases hph with ⟨hDp, hE⟩ | ⟨hDp, hS⟩
   · rcases hs.1 hE with ⟨hw, hG⟩ | ⟨hip, hw, hP⟩
     · rw [if_pos hw]; refine .inl (Gives.wp hG fun v w'' ⟨hE2, hP⟩ => after v w'' ?_ hP); cases hip : (i == p) with
       | true => rw [hip] at hE2; right; exact ⟨rfl, hE2⟩
       | false => rw [hip] at hE2; left; exact ⟨by rw [hDp]; rfl, hE.trans hE2⟩
     · rw [hw, if_neg (by simp)]; exact after undef w' (.inl ⟨by rw [hDp, hip]; rfl, hE⟩) hP
   · have hne : ((i == p) || aheadOf ops ops.size p i) = false := by
      cases hip : (i == p) with
      | true =>
       have : i = p := by simpa using hip
       subst this; rw [hDi] at hDp; cases hDp
      | false =>
       cases hah : aheadOf ops ops.size p i with
       | false => rfl
       | true =>
        have := aheadOf_done hcl ops.size p i hDp hah; rw [hDi] at this; cases this
     rcases hs.2 hne hS with ⟨hw, hG⟩ | ⟨hw, hP⟩
     · rw [if_pos hw]; exact .inl (Gives.wp hG fun v w'' ⟨hS2, hP⟩ => after v w'' (.inr ⟨by rw [hDp, Bool.or_true], hS2⟩) hP)
     · rw [hw, if_neg (by simp)]; exact after undef w' (.inr ⟨by rw [hDp, Bool.or_true], hS⟩) hP
 · rintro D D' a' w' hDD ⟨hph, hcl, hd2, hd3, hd4, hd5⟩; refine ⟨?_, ?_, hd2, hd3, hd4, fun i o d ho hD hd => hd5 i o d ho ?_ hd⟩
   · rw [← hDD p hp]; exact hph
   · intro i o ho hDi e he hb; have hi := (Array.getElem?_eq_some_iff.1 ho).1; have hlt := hacyc i o ho e he hb; rw [← hDD e.on (by omega)]; exact hcl i o ho (by rw [hDD i hi]; exact hDi) e he hb
   · rw [hDD i (Array.getElem?_eq_some_iff.1 ho).1]; exact hD
 · rintro D a' w' ⟨hph, hcl, hd2, hd3, hd4, hd5⟩ hall; have hS : S w' := by
    rcases hph with ⟨hf, _⟩ | ⟨_, hS⟩
    · rw [hall p hp] at hf; cases hf
    · exact hS
   refine hend a' w' hS hd2 hd3 (fun x hx => hd4 x (touched_spec hx)) ?_; intro j d hd; cases hoe : ops[j]? with
   | none => simp [hoe] at hd
   | some oe => exact hd5 j oe d hoe (hall j (Array.getElem?_eq_some_iff.1 hoe).1) (by simpa [hoe] using hd)
end
end
end Go.Proofs.YtdmjinlgdkgoiaaGreatDoor
