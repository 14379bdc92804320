/-
  One step of a region, and a region in the order of its text.
  No condition beyond those that each statement names.
-/
import Derived.Test.YtcakpkdeojhacaaRxSound
namespace Go.R

@[simp] theorem lget_nil (i : Nat) : lget .nil i = undef := rfl
@[simp] theorem lget_lset_same (t : Tr Value) (d : Nat) (v : Value) : lget (lset t d v) d = v := by simp [lget, lset]
theorem lget_lset_ne (t : Tr Value) {d k : Nat} (v : Value) (h : d ≠ k) : lget (lset t d v) k = lget t k := by simp [lget, lset, Tr.get_set_ne _ _ h]
theorem lget_lset (t : Tr Value) (d k : Nat) (v : Value) : lget (lset t d v) k = if d = k then v else lget t k := by
  by_cases h : d = k
  · subst h; simp
  · rw [if_neg h, lget_lset_ne t v h]

def TRel (μ : Emb) (t : Tr Value) (n : Nat) (a : Array Value) : Prop := a.size = n ∧ ∀ i, VRel μ (lget t i) (a.getD i undef)
def GRel (μ : Emb) (G : Nat) : Prop := ∀ g, g < G → ∃ l, μ g = some l ∧ l.c = g ∧ l.sh = 0

section
variable {P : Program} {G : Nat} {μ μ' : Emb}
theorem TRel.mono (h : ∀ b l, μ b = some l → μ' b = some l) {t : Tr Value} {n : Nat} {a : Array Value} (ht : TRel μ t n a) : TRel μ' t n a := ⟨ht.1, fun i => (ht.2 i).mono h⟩
theorem GRel.mono (h : ∀ b l, μ b = some l → μ' b = some l) (hg : GRel μ G) : GRel μ' G := fun g hlt => by
  obtain ⟨l, h1, h2, h3⟩ := hg g hlt; exact ⟨l, h _ _ h1, h2, h3⟩
theorem getD_set (a : Array Value) (d i : Nat) (v : Value) : (a.setIfInBounds d v).getD i undef = if d = i ∧ d < a.size then v else a.getD i undef := by
  simp only [Array.getD_eq_getD_getElem?, Array.getElem?_setIfInBounds]
  by_cases h : d = i
  · subst h
    by_cases h2 : d < a.size
    · simp [h2]
    · simp [h2]
  · simp [h]
theorem TRel.put {t : Tr Value} {n : Nat} {a : Array Value} (h : TRel μ t n a) {d : Nat} (hd : d < n) {v v' : Value} (hv : VRel μ v v') : TRel μ (lset t d v) n (a.setIfInBounds d v') := by
  refine ⟨by simp [h.1], fun i => ?_⟩
  rw [lget_lset, getD_set]
  by_cases hi : d = i
  · rw [if_pos hi, if_pos ⟨hi, by rw [h.1]; exact hd⟩]; exact hv
  · rw [if_neg hi, if_neg (fun e => hi e.1)]; exact h.2 i

theorem eval_of (hG : GRel μ G) {tm : Tr Value} {a : Act} {x : Operand} (hx : opnOK G x = true) (h : ∀ t, x = .tmp t → VRel μ (lget tm t) (a.tmps.getD t undef)) :
    VRel μ (aeval tm x) (a.eval x) := by
  cases x with
  | tmp t => exact h t rfl
  | const v => exact VRel.refl2 hx
  | global g =>
    obtain ⟨l, h1, h2, h3⟩ := hG g (Nat.le_of_ble_eq_true hx)
    have := VRel.ptr (μ := μ) g 0 l h1
    rw [h2, h3] at this; exact this
  | func f => exact .atom _ rfl

theorem yield_eq {ops : Array Oper} {tm : Tr Value} {a : Array Value} {j : Nat} (h : ∀ d, (ops[j]?).bind (·.dst) = some d → VRel μ (lget tm d) (a.getD d undef)) :
    yieldL ops tm j = yielded ops a j := by
  unfold yieldL yielded
  cases hd : (ops[j]?).bind (·.dst) with
  | none => rfl
  | some d =>
    have hv := h d hd
    simp only [Option.bind_some]
    simp only [Array.getD_eq_getD_getElem?] at hv
    cases ha : a[d]? with
    | none =>
      rw [ha] at hv
      simp only [Option.getD_none] at hv
      have : ∀ b, lget tm d ≠ .bool b := by
        intro b e
        rw [e] at hv
        have := hv.bool_inv
        cases this
      cases hl : lget tm d <;> first | rfl | exact absurd hl (this _)
    | some x =>
      rw [ha] at hv
      simp only [Option.getD_some] at hv
      cases x with
      | bool b =>
        have : lget tm d = .bool b := by
          generalize lget tm d = y at hv
          cases hv; rfl
        rw [this]
      | _ =>
        have : ∀ b, lget tm d ≠ .bool b := by
          intro b e
          rw [e] at hv
          have := hv.bool_inv
          cases this
        cases hl : lget tm d <;> first | rfl | exact absurd hl (this _)

theorem wanted_eq {ops : Array Oper} {o : Oper} {tm : Tr Value} {a : Array Value} (h : ∀ j w, o.guard = some (j, w) → ∀ d, (ops[j]?).bind (·.dst) = some d → VRel μ (lget tm d) (a.getD d undef)) :
    wantedL ops o tm = Region.wanted o (yielded ops a) := by
  unfold wantedL Region.wanted
  cases hg : o.guard with
  | none => rfl
  | some p =>
    obtain ⟨j, w⟩ := p
    simp only
    rw [yield_eq (h j w hg)]

/-! Calls, as the evaluator makes them. -/
def CallOK (P : Program) (G : Nat) (cf : CallF) : Prop := ∀ f args H v H', cf f args H = some (v, H') → WF H → Ext H H' ∧
  ∀ μ w (cargs : Array Value), LRel μ args cargs.toList → GRel μ G → WRel μ H w → (∀ b, H.next ≤ b → b < H'.next → μ b = none) →
    Calls P f cargs w fun e w' => ∃ μ' v', e = .returned v' ∧ VRel μ' v v' ∧ Post μ H w μ' H' w'

/-- The value and the heap that an operation comes to. -/
noncomputable def evalOp (P : Program) (cf : CallF) (ρ : Operand → Value) (o : Oper) (H : Heap) : Option (Value × Heap) :=
  match aop P ρ o H with
  | some (.val v, h) => some (v, h)
  | some (.skip, h) => some (undef, h)
  | some (.enter f args, h) => cf f args h
  | none => none

theorem step_eq (cf : CallF) (ops : Array Oper) (o : Oper) (s : St) : step P G cf ops o s =
    bif wantedL ops o s.tmps then
      bif o.op.operands.toList.all (opnOK G) then
        match evalOp P cf (aeval s.tmps) o s.heap with
        | some (v, h) => { s with heap := h }.put o.dst v
        | none => none
      else none
    else s.put o.dst undef := by
  unfold step evalOp
  cases wantedL ops o s.tmps with
  | false => rfl
  | true =>
    cases o.op.operands.toList.all (opnOK G) with
    | false => rfl
    | true =>
      simp only [cond_true]
      cases aop P (aeval s.tmps) o s.heap with
      | none => rfl
      | some p =>
        obtain ⟨r, h⟩ := p
        cases r with
        | val v => rfl
        | skip => rfl
        | enter f args =>
          simp only
          cases cf f args h with
          | none => rfl
          | some q => rfl

theorem put_inv {s s' : St} {dst : Option Tmp} {v : Value} (h : s.put dst v = some s') :
    s'.size = s.size ∧ s'.heap = s.heap ∧ ((dst = none ∧ s'.tmps = s.tmps) ∨ ∃ d, dst = some d ∧ d < s.size ∧ s'.tmps = lset s.tmps d v) := by
  unfold St.put at h
  split at h
  · rename_i d
    cases hq : Nat.ble (d + 1) s.size with
    | false => rw [hq] at h; cases h
    | true =>
      rw [hq] at h; simp only [cond_true, Option.some.injEq] at h; subst h
      exact ⟨rfl, rfl, .inr ⟨d, rfl, Nat.le_of_ble_eq_true hq, rfl⟩⟩
  · injection h with h; subst h; exact ⟨rfl, rfl, .inl ⟨rfl, rfl⟩⟩

theorem evalOp_ext {cf : CallF} (hcf : CallOK P G cf) {ρ : Operand → Value} {o : Oper} {H H' : Heap} {v : Value} (hw : WF H) (h : evalOp P cf ρ o H = some (v, H')) : Ext H H' := by
  unfold evalOp at h
  split at h
  · rename_i u h1 ha
    simp only [Option.some.injEq, Prod.mk.injEq] at h; rw [← h.2]; exact aop_ext hw ha
  · rename_i h1 ha
    simp only [Option.some.injEq, Prod.mk.injEq] at h; rw [← h.2]; exact aop_ext hw ha
  · rename_i f args h1 ha
    have e1 := aop_ext hw ha
    exact e1.trans (hcf f args h1 v H' h (hw.ext e1)).1
  · cases h

theorem evalOp_sound {cf : CallF} (hcf : CallOK P G cf) {ρ : Operand → Value} {o : Oper} {a : Act} {H H' : Heap} {v : Value} {w : World} (hwf : WF H) (hρ : ∀ x ∈ o.op.operands, VRel μ (ρ x) (a.eval x))
    (hG : GRel μ G) (hw : WRel μ H w) (hf : ∀ b, H.next ≤ b → b < H'.next → μ b = none) (h : evalOp P cf ρ o H = some (v, H')) {K : Act → World → Prop} {Q : Exit → Act → World → Prop}
    (hK : ∀ μ' w' v', Post μ H w μ' H' w' → VRel μ' v v' → K (a.put o.dst v') w') : o.wp P a w K Q := by
  unfold evalOp at h
  unfold Oper.wp
  split at h
  · rename_i u h1 ha
    simp only [Option.some.injEq, Prod.mk.injEq] at h
    obtain ⟨rfl, rfl⟩ := h
    obtain ⟨n, w1, μ1, hrun, hp, hr⟩ := aop_sound hρ hw hf ha
    rw [hrun]
    cases n <;> first | exact hK μ1 w1 _ hp hr | exact hr.elim
  · rename_i h1 ha
    simp only [Option.some.injEq, Prod.mk.injEq] at h
    obtain ⟨rfl, rfl⟩ := h
    obtain ⟨n, w1, μ1, hrun, hp, hr⟩ := aop_sound hρ hw hf ha
    rw [hrun]
    cases n <;> first | exact hK μ1 w1 _ hp VRel.undef | exact hr.elim
  · rename_i f args h1 ha
    have e1 := aop_ext hwf ha
    obtain ⟨e2, hcall⟩ := hcf f args h1 v H' h (hwf.ext e1)
    obtain ⟨n, w1, μ1, hrun, hp, hr⟩ := aop_sound hρ hw (fun b hb1 hb2 => hf b hb1 (Nat.lt_of_lt_of_le hb2 e2.next)) ha
    rw [hrun]
    cases n with
    | enter f' cargs =>
      obtain ⟨rfl, hargs⟩ := hr
      rw [Oper.upon_enter]
      refine (hcall μ1 w1 cargs hargs (hG.mono hp.ext) hp.wrel (fun b hb1 hb2 => ?_)).mono ?_
      · cases hb : μ1 b with
        | none => rfl
        | some l =>
          rcases hp.dom b l hb with hb0 | ⟨_, hb3⟩
          · rw [hf b (Nat.le_trans e1.next hb1) hb2] at hb0; cases hb0
          · omega
      · rintro e w2 ⟨μ2, v', rfl, hv, hp2⟩
        exact hK μ2 w2 v' (hp.trans hp2 e1.next e2.next) hv
    | _ => exact hr.elim
  · cases h

theorem step_ext {cf : CallF} (hcf : CallOK P G cf) {ops : Array Oper} {o : Oper} {s s' : St} (hw : WF s.heap) (h : step P G cf ops o s = some s') : Ext s.heap s'.heap := by
  rw [step_eq] at h
  cases hq : wantedL ops o s.tmps with
  | false => rw [hq] at h; rw [(put_inv h).2.1]; exact Ext.refl _
  | true =>
    rw [hq] at h
    cases hq2 : o.op.operands.toList.all (opnOK G) with
    | false => rw [hq2] at h; cases h
    | true =>
      rw [hq2] at h
      simp only [cond_true] at h
      split at h
      · rename_i v h1 he
        rw [(put_inv h).2.1]; exact evalOp_ext hcf hw he
      · cases h

theorem act_put_defers (a : Act) (dst : Option Tmp) (v : Value) : (a.put dst v).defers = a.defers := by cases dst <;> rfl

theorem put_rel {s s' : St} {dst : Option Tmp} {v v' : Value} {a : Act} (h : s.put dst v = some s') (ht : TRel μ s.tmps s.size a.tmps) (hv : VRel μ v v') :
    TRel μ s'.tmps s'.size (a.put dst v').tmps := by
  obtain ⟨h1, _, ⟨rfl, h3⟩ | ⟨d, rfl, hd, h3⟩⟩ := put_inv h
  · rw [h1, h3]; exact ht
  · rw [h1, h3]; exact ht.put hd hv

theorem step_sound {cf : CallF} (hcf : CallOK P G cf) {ops : Array Oper} {i : Nat} {o : Oper} (ho : ops[i]? = some o) {s s' : St} {a : Act} {w : World} (hwf : WF s.heap) (ht : TRel μ s.tmps s.size a.tmps)
    (hG : GRel μ G) (hw : WRel μ s.heap w) (hf : ∀ b, s.heap.next ≤ b → b < s'.heap.next → μ b = none) (h : step P G cf ops o s = some s') {K : Act → World → Prop} {Q : Exit → Act → World → Prop}
    (hK : ∀ μ' w' a', Post μ s.heap w μ' s'.heap w' → TRel μ' s'.tmps s'.size a'.tmps → a'.defers = a.defers → K a' w') : wpOp P ops Q i K a w := by
  unfold wpOp
  rw [ho]
  simp only
  have hwant : wantedL ops o s.tmps = Region.wanted o (yielded ops a.tmps) := wanted_eq (μ := μ) fun _ _ _ d _ => ht.2 d
  rw [step_eq, hwant] at h
  cases hq : Region.wanted o (yielded ops a.tmps) with
  | false =>
    rw [hq] at h
    simp only [cond_false] at h
    simp only [Bool.false_eq_true, if_false]
    have hh := (put_inv h).2.1
    exact hK μ w _ (by rw [hh]; exact Post.refl hw) (put_rel h ht VRel.undef) (act_put_defers _ _ _)
  | true =>
    rw [hq] at h
    simp only [if_true]
    left
    cases hq2 : o.op.operands.toList.all (opnOK G) with
    | false => rw [hq2] at h; cases h
    | true =>
      rw [hq2] at h
      simp only [cond_true] at h
      split at h
      · rename_i v h1 he
        have hh := (put_inv h).2.1
        simp only at hh
        refine evalOp_sound hcf hwf (fun x hx => eval_of hG (List.all_eq_true.1 hq2 x (by simpa using hx)) fun t _ => ht.2 t) hG hw (by rw [← hh]; exact hf) he ?_
        intro μ' w' v' hp hv
        have ht' : TRel μ' s.tmps s.size a.tmps := ht.mono hp.ext
        exact hK μ' w' _ (by rw [hh]; exact hp) (put_rel (s := { s with heap := h1 }) h ht' hv) (act_put_defers _ _ _)
      · cases h

theorem runOps_ext {cf : CallF} (hcf : CallOK P G cf) {ops : Array Oper} : ∀ (l : List Oper) (s s' : St), WF s.heap → runOps P G cf ops l s = some s' → Ext s.heap s'.heap
  | [], s, s', _, h => by rw [runOps_nil] at h; injection h with h; subst h; exact Ext.refl _
  | o :: os, s, s', hw, h => by
    rw [runOps_cons] at h
    split at h
    · rename_i s1 h1
      have e1 := step_ext hcf hw h1
      exact e1.trans (runOps_ext hcf os s1 s' (hw.ext e1) h)
    · cases h

theorem runOps_sound {cf : CallF} (hcf : CallOK P G cf) {ops : Array Oper} {Q : Exit → Act → World → Prop} : ∀ (l : List Oper) (k : Nat) (s s' : St), ops.toList.drop k = l → runOps P G cf ops l s = some s' →
    ∀ (μ : Emb) (a : Act) (w : World), WF s.heap → TRel μ s.tmps s.size a.tmps → GRel μ G → WRel μ s.heap w → (∀ b, s.heap.next ≤ b → b < s'.heap.next → μ b = none) →
    (∀ μ' w' a', Post μ s.heap w μ' s'.heap w' → TRel μ' s'.tmps s'.size a'.tmps → a'.defers = a.defers → Q .normal a' w') → wpOps P ops Q (List.range' k l.length) a w
  | [], k, s, s', _, h, μ, a, w, hwf, ht, hG, hw, hf, hQ => by
    rw [runOps_nil] at h; injection h with h; subst h
    simp only [List.length_nil, List.range'_zero, wpOps]
    exact hQ μ w a (Post.refl hw) ht rfl
  | o :: os, k, s, s', hd, h, μ, a, w, hwf, ht, hG, hw, hf, hQ => by
    rw [runOps_cons] at h
    split at h
    · rename_i s1 h1
      have e1 := step_ext hcf hwf h1
      have e2 := runOps_ext hcf os s1 s' (hwf.ext e1) h
      have hk : k < ops.toList.length := by
        rcases Nat.lt_or_ge k ops.toList.length with hl | hl
        · exact hl
        · rw [List.drop_eq_nil_of_le hl] at hd; cases hd
      have hdd := List.drop_eq_getElem_cons hk
      rw [hd] at hdd
      injection hdd with h2 h3
      have ho : ops[k]? = some o := by
        have : ops.toList[k]? = some o := by rw [List.getElem?_eq_getElem hk, ← h2]
        simpa using this
      simp only [List.length_cons, List.range'_succ]
      rw [wpOps_cons]
      refine step_sound hcf ho hwf ht hG hw (fun b hb1 hb2 => hf b hb1 (Nat.lt_of_lt_of_le hb2 e2.next)) h1 ?_
      intro μ1 w1 a1 hp ht1 hd1
      refine runOps_sound hcf os (k + 1) s1 s' h3.symm h μ1 a1 w1 (hwf.ext e1) ht1 (hG.mono hp.ext) hp.wrel (fun b hb1 hb2 => ?_) ?_
      · cases hb : μ1 b with
        | none => rfl
        | some l =>
          rcases hp.dom b l hb with hb0 | ⟨_, hb3⟩
          · rw [hf b (Nat.le_trans e1.next hb1) hb2] at hb0; cases hb0
          · omega
      · intro μ2 w2 a2 hp2 ht2 hd2
        exact hQ μ2 w2 a2 (hp.trans hp2 e1.next e2.next) ht2 (hd2.trans hd1)
    · cases h
end
end Go.R
