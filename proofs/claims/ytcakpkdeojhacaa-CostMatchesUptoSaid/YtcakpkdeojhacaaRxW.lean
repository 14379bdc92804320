/-
  Symbolic runs over the evaluator: a code with what is left to do behind it, slots as a function.
  No condition beyond those that each statement names.
-/
import Derived.Test.YtcakpkdeojhacaaRxMono
noncomputable section
namespace Go.R

abbrev Fn := Nat → Value
def upd (f : Fn) (i : Nat) (v : Value) : Fn := fun j => bif Nat.beq i j then v else f j
def updO (f : Fn) (d : Option Tmp) (v : Value) : Fn := match d with
  | some d => upd f d v
  | none => f
def updL (f : Fn) : List (Nat × Value) → Fn
  | [] => f
  | (i, v) :: l => upd (updL f l) i v
def agrees (f : Fn) : List (Nat × Value) → Prop
  | [] => True
  | (i, v) :: l => f i = v ∧ agrees f l
def aevF (f : Fn) : Operand → Value
  | .tmp t => f t
  | .const v => v
  | .global g => .pointer (some ⟨g, 0, none⟩)
  | .func i => .func (.func i) #[] #[]
def argF (l : List Value) : Fn := fun j => l.getD j undef

theorem upd_self (f : Fn) {i : Nat} {v : Value} (h : f i = v) : upd f i v = f := by
  funext j
  unfold upd
  cases hb : Nat.beq i j with
  | true => have := Nat.eq_of_beq_eq_true hb; subst this; exact h.symm
  | false => rfl
theorem updL_self {f : Fn} : ∀ {l : List (Nat × Value)}, agrees f l → updL f l = f
  | [], _ => rfl
  | (i, v) :: l, h => by
    unfold updL
    rw [updL_self h.2]
    exact upd_self f h.1
theorem lget_lset_fn (t : Tr Value) (d : Nat) (v : Value) : lget (lset t d v) = upd (lget t) d v := by
  funext j
  rw [lget_lset]
  unfold upd
  by_cases h : d = j
  · subst h; rw [if_pos rfl, Nat.beq_refl]; rfl
  · rw [if_neg h]
    cases hb : Nat.beq d j with
    | true => exact absurd (Nat.eq_of_beq_eq_true hb) h
    | false => rfl
theorem aeval_fn (t : Tr Value) : aeval t = aevF (lget t) := by
  funext x; cases x <;> rfl
theorem argTmps_fn (args : List Value) : lget (argTmps 0 args .nil) = argF args := by
  funext j
  rw [argTmps_get]
  unfold argF
  by_cases h : j < args.length
  · rw [if_pos (by omega)]; rfl
  · rw [if_neg (by omega), List.getD_eq_getElem?_getD, List.getElem?_eq_none (by omega)]; rfl

inductive Fr where
  | seq (b : Code)
  | block (id : Nat)

section
variable {P : Program} {G : Nat} {K : Known} {sz : Nat} {Q : Ex → Fn → Heap → Prop}

def runK (P : Program) (G : Nat) (K : Known) (n : Nat) : List Fr → Option (Ex × St) → Option (Ex × St)
  | [], r => r
  | .seq b :: k, r => runK P G K n k (exSeq r (exec P G K n b))
  | .block id :: k, r => runK P G K n k (exBlock id r)

theorem runK_mono {n m : Nat} (h : n ≤ m) : ∀ (k : List Fr) (r r' : Option (Ex × St)), (∀ x, r = some x → r' = some x) → ∀ x, runK P G K n k r = some x → runK P G K m k r' = some x
  | [], r, r', hr, x, hx => hr x hx
  | .seq b :: k, r, r', hr, x, hx => runK_mono h k _ _ (fun _ hy => exSeq_mono hr (fun s y hy => exec_mono h b s y hy) hy) x hx
  | .block id :: k, r, r', hr, x, hx => runK_mono h k _ _ (fun _ hy => exBlock_mono hr hy) x hx

/-- The code, then what is left: it ends, in a state of which Q holds. -/
structure WK (P : Program) (G : Nat) (K : Known) (sz : Nat) (c : Code) (k : List Fr) (f : Fn) (H : Heap) (Q : Ex → Fn → Heap → Prop) : Prop where
  out : ∀ t, lget t = f → ∃ n e s', runK P G K (n + 1) k (exec P G K (n + 1) c ⟨t, sz, H⟩) = some (e, s') ∧ Q e (lget s'.tmps) s'.heap
/-- The rest of a region's operations. -/
structure WO (P : Program) (G : Nat) (K : Known) (sz : Nat) (ops : Array Oper) (os : List Oper) (k : List Fr) (f : Fn) (H : Heap) (Q : Ex → Fn → Heap → Prop) : Prop where
  out : ∀ t, lget t = f → ∃ n e s', runK P G K (n + 1) k (exRegion (runOps P G (call P G K n) ops os ⟨t, sz, H⟩)) = some (e, s') ∧ Q e (lget s'.tmps) s'.heap
/-- A call. -/
structure C (P : Program) (G : Nat) (K : Known) (f : FuncId) (args : List Value) (H : Heap) (R : Value → Heap → Prop) : Prop where
  out : ∃ n v H', call P G K n f args H = some (v, H') ∧ R v H'

theorem C.mono {f : FuncId} {args : List Value} {H : Heap} {R R' : Value → Heap → Prop} (h : C P G K f args H R) (hr : ∀ v H', R v H' → R' v H') : C P G K f args H R' := by
  obtain ⟨n, v, H', h1, h2⟩ := h.out
  exact ⟨n, v, H', h1, hr _ _ h2⟩

variable {c : Code} {k : List Fr} {f : Fn} {H : Heap}
theorem wk_skip_nil (h : Q .normal f H) : WK P G K sz .skip [] f H Q := ⟨fun t ht => ⟨0, .normal, ⟨t, sz, H⟩, rfl, by rw [ht]; exact h⟩⟩
theorem wk_skip_seq {b : Code} (h : WK P G K sz b k f H Q) : WK P G K sz .skip (.seq b :: k) f H Q := ⟨h.out⟩
theorem wk_skip_block {id : Nat} (h : WK P G K sz .skip k f H Q) : WK P G K sz .skip (.block id :: k) f H Q := ⟨h.out⟩
theorem wk_seq {a b : Code} (h : WK P G K sz a (.seq b :: k) f H Q) : WK P G K sz (.seq a b) k f H Q := ⟨h.out⟩
theorem wk_block {id : Nat} {b : Code} (h : WK P G K sz b (.block id :: k) f H Q) : WK P G K sz (.block id b) k f H Q := ⟨h.out⟩
theorem wk_loop {b : Code} (h : WK P G K sz b (.seq (.loop b) :: k) f H Q) : WK P G K sz (.loop b) k f H Q := ⟨fun t ht => by
  obtain ⟨n, e, s', h1, h2⟩ := h.out t ht
  refine ⟨n + 1, e, s', ?_, h2⟩
  refine runK_mono (Nat.le_succ (n + 1)) k _ _ (fun x hx => ?_) _ h1
  show exSeq (exec P G K (n + 2) b ⟨t, sz, H⟩) (exec P G K (n + 1) (.loop b)) = some x
  exact exSeq_mono (fun y hy => exec_succ _ _ _ _ hy) (fun _ _ hy => hy) hx⟩
theorem wk_exit_seq {id : Nat} {b : Code} (h : WK P G K sz (.exit id) k f H Q) : WK P G K sz (.exit id) (.seq b :: k) f H Q := ⟨h.out⟩
theorem wk_exit_block {id : Nat} (h : WK P G K sz .skip k f H Q) : WK P G K sz (.exit id) (.block id :: k) f H Q := ⟨fun t ht => by
  obtain ⟨n, e, s', h1, h2⟩ := h.out t ht
  refine ⟨n, e, s', ?_, h2⟩
  show runK P G K (n + 1) k (exBlock id (some (.exit id, ⟨t, sz, H⟩))) = _
  unfold exBlock
  simp only [Nat.beq_refl, cond_true]
  exact h1⟩
theorem wk_exit_block_ne {id id' : Nat} (hne : Nat.beq id id' = false) (h : WK P G K sz (.exit id) k f H Q) : WK P G K sz (.exit id) (.block id' :: k) f H Q := ⟨fun t ht => by
  obtain ⟨n, e, s', h1, h2⟩ := h.out t ht
  refine ⟨n, e, s', ?_, h2⟩
  show runK P G K (n + 1) k (exBlock id' (some (.exit id, ⟨t, sz, H⟩))) = _
  unfold exBlock
  simp only [hne, cond_false]
  exact h1⟩
theorem runK_ret {n : Nat} {s : St} : ∀ k : List Fr, runK P G K n k (some (.ret, s)) = some (.ret, s)
  | [] => rfl
  | .seq _ :: k => runK_ret k
  | .block _ :: k => runK_ret k
theorem wk_ret (h : Q .ret f H) : WK P G K sz .ret k f H Q := ⟨fun t ht => ⟨0, .ret, ⟨t, sz, H⟩, runK_ret k, by rw [ht]; exact h⟩⟩
theorem wk_cond {x : Operand} {a b : Code} {v : Bool} (hx : aevF f x = .bool v) (ho : opnOK G x = true) (ht : v = true → WK P G K sz a k f H Q) (he : v = false → WK P G K sz b k f H Q) : WK P G K sz (.cond x a b) k f H Q := ⟨fun t hf => by
  have hcond : ∀ n, exec P G K (n + 1) (.cond x a b) ⟨t, sz, H⟩ = bif v then exec P G K (n + 1) a ⟨t, sz, H⟩ else exec P G K (n + 1) b ⟨t, sz, H⟩ := by
    intro n
    show (bif opnOK G x then exCond (aeval t x) _ _ else none) = _
    rw [ho, aeval_fn, hf, hx]
    rfl
  cases v with
  | true =>
    obtain ⟨n, e, s', h1, h2⟩ := (ht rfl).out t hf
    exact ⟨n, e, s', by rw [hcond]; exact h1, h2⟩
  | false =>
    obtain ⟨n, e, s', h1, h2⟩ := (he rfl).out t hf
    exact ⟨n, e, s', by rw [hcond]; exact h1, h2⟩⟩
theorem wk_true {x : Operand} {a b : Code} {v : Bool} (hx : aevF f x = .bool v) (hv : v = true) (ho : opnOK G x = true) (h : WK P G K sz a k f H Q) : WK P G K sz (.cond x a b) k f H Q :=
  wk_cond hx ho (fun _ => h) (fun e => by rw [hv] at e; cases e)
theorem wk_false {x : Operand} {a b : Code} {v : Bool} (hx : aevF f x = .bool v) (hv : v = false) (ho : opnOK G x = true) (h : WK P G K sz b k f H Q) : WK P G K sz (.cond x a b) k f H Q :=
  wk_cond hx ho (fun e => by rw [hv] at e; cases e) (fun _ => h)
theorem wk_region {id : Nat} {ops : Array Oper} (h : WO P G K sz ops ops.toList k f H Q) : WK P G K sz (.region id ops false) k f H Q := ⟨h.out⟩
theorem wo_nil {ops : Array Oper} (h : WK P G K sz .skip k f H Q) : WO P G K sz ops [] k f H Q := ⟨h.out⟩
theorem wk_canon (l : List (Nat × Value)) (hl : agrees f l) (h : ∀ g, WK P G K sz c k (updL g l) H Q) : WK P G K sz c k f H Q := by
  have := h f
  rwa [updL_self hl] at this

/-- What an operation comes to. -/
structure AP (P : Program) (ρ : Operand → Value) (o : Oper) (H : Heap) (r : AN × Heap) : Prop where
  eq : aop P ρ o H = some r

def dstOK (d : Option Tmp) (sz : Nat) : Bool := match d with
  | some d => Nat.ble (d + 1) sz
  | none => true
theorem put_fn {s : St} {d : Option Tmp} {v : Value} (hd : dstOK d s.size = true) : ∃ t', s.put d v = some { s with tmps := t' } ∧ lget t' = updO (lget s.tmps) d v := by
  unfold St.put
  cases d with
  | none => exact ⟨s.tmps, rfl, rfl⟩
  | some d =>
    have hd' : Nat.ble (d + 1) s.size = true := hd
    simp only [hd', cond_true]
    exact ⟨lset s.tmps d v, rfl, lget_lset_fn _ _ _⟩

section
variable {ops : Array Oper} {o : Oper} {os : List Oper} {v : Value} {H1 : Heap}
theorem step_val {t : Tr Value} (hg : o.guard = none) (ho : o.op.operands.toList.all (opnOK G) = true) (ha : aop P (aevF (lget t)) o H = some (.val v, H1)) (hd : dstOK o.dst sz = true) :
    ∃ t', (∀ cf, step P G cf ops o ⟨t, sz, H⟩ = some ⟨t', sz, H1⟩) ∧ lget t' = updO (lget t) o.dst v := by
  obtain ⟨t', h1, h2⟩ := put_fn (s := ⟨t, sz, H1⟩) (v := v) hd
  refine ⟨t', fun cf => ?_, h2⟩
  unfold step wantedL
  simp only [hg, cond_true, ho, aeval_fn, ha]
  exact h1
theorem step_skip {t : Tr Value} (hg : o.guard = none) (ho : o.op.operands.toList.all (opnOK G) = true) (ha : aop P (aevF (lget t)) o H = some (.skip, H1)) (hd : dstOK o.dst sz = true) :
    ∃ t', (∀ cf, step P G cf ops o ⟨t, sz, H⟩ = some ⟨t', sz, H1⟩) ∧ lget t' = updO (lget t) o.dst undef := by
  obtain ⟨t', h1, h2⟩ := put_fn (s := ⟨t, sz, H1⟩) (v := undef) hd
  refine ⟨t', fun cf => ?_, h2⟩
  unfold step wantedL
  simp only [hg, cond_true, ho, aeval_fn, ha]
  exact h1
theorem step_call {cf : CallF} {t : Tr Value} {g : FuncId} {args : List Value} {H2 : Heap} (hg : o.guard = none) (ho : o.op.operands.toList.all (opnOK G) = true) (ha : aop P (aevF (lget t)) o H = some (.enter g args, H1))
    (hc : cf g args H1 = some (v, H2)) (hd : dstOK o.dst sz = true) :
    ∃ t', step P G cf ops o ⟨t, sz, H⟩ = some ⟨t', sz, H2⟩ ∧ lget t' = updO (lget t) o.dst v := by
  obtain ⟨t', h1, h2⟩ := put_fn (s := ⟨t, sz, H2⟩) (v := v) hd
  refine ⟨t', ?_, h2⟩
  unfold step wantedL
  simp only [hg, cond_true, ho, aeval_fn, ha, hc]
  exact h1

theorem wo_val {d : Tmp} {op : Op} {ty : TypeId} {pos : String} {af : Array Edge} (ha : AP P (aevF f) ⟨some d, op, ty, pos, af, none⟩ H (.val v, H1)) (ho : op.operands.toList.all (opnOK G) = true) (hd : Nat.ble (d + 1) sz = true)
    (h : WO P G K sz ops os k (upd f d v) H1 Q) : WO P G K sz ops (⟨some d, op, ty, pos, af, none⟩ :: os) k f H Q := ⟨fun t ht => by
  obtain ⟨t', h1, h2⟩ := step_val (P := P) (G := G) (ops := ops) (t := t) (o := ⟨some d, op, ty, pos, af, none⟩) rfl ho (by rw [ht]; exact ha.eq) hd
  obtain ⟨n, e, s', h3, h4⟩ := h.out t' (by rw [h2, ht]; rfl)
  refine ⟨n, e, s', ?_, h4⟩
  rw [runOps_cons, h1]
  exact h3⟩
theorem wo_skip {op : Op} {ty : TypeId} {pos : String} {af : Array Edge} (ha : AP P (aevF f) ⟨none, op, ty, pos, af, none⟩ H (.skip, H1)) (ho : op.operands.toList.all (opnOK G) = true)
    (h : WO P G K sz ops os k f H1 Q) : WO P G K sz ops (⟨none, op, ty, pos, af, none⟩ :: os) k f H Q := ⟨fun t ht => by
  obtain ⟨t', h1, h2⟩ := step_skip (P := P) (G := G) (ops := ops) (t := t) (sz := sz) (o := ⟨none, op, ty, pos, af, none⟩) rfl ho (by rw [ht]; exact ha.eq) rfl
  obtain ⟨n, e, s', h3, h4⟩ := h.out t' (by rw [h2, ht]; rfl)
  refine ⟨n, e, s', ?_, h4⟩
  rw [runOps_cons, h1]
  exact h3⟩
theorem wo_callG {d : Option Tmp} {op : Op} {ty : TypeId} {pos : String} {af : Array Edge} {g : FuncId} {args : List Value} {R : Value → Heap → Prop} (ha : AP P (aevF f) ⟨d, op, ty, pos, af, none⟩ H (.enter g args, H1)) (ho : op.operands.toList.all (opnOK G) = true) (hd : dstOK d sz = true)
    (hc : C P G K g args H1 R) (h : ∀ v H2, R v H2 → WO P G K sz ops os k (updO f d v) H2 Q) : WO P G K sz ops (⟨d, op, ty, pos, af, none⟩ :: os) k f H Q := ⟨fun t ht => by
  obtain ⟨n1, v, H2, hc1, hr⟩ := hc.out
  have h0 := h v H2 hr
  obtain ⟨t', h1, h2⟩ := put_fn (s := ⟨t, sz, H2⟩) (v := v) hd
  obtain ⟨n2, e, s', h3, h4⟩ := h0.out t' (by rw [h2, ht])
  refine ⟨Nat.max n1 n2, e, s', ?_, h4⟩
  have hst : step P G (call P G K (Nat.max n1 n2)) ops ⟨d, op, ty, pos, af, none⟩ ⟨t, sz, H⟩ = some ⟨t', sz, H2⟩ := by
    unfold step wantedL
    simp only [cond_true, ho, aeval_fn, ht, ha.eq, call_mono (Nat.le_max_left n1 n2) _ _ _ _ hc1]
    exact h1
  rw [runOps_cons, hst]
  refine runK_mono (Nat.succ_le_succ (Nat.le_max_right n1 n2)) k _ _ (fun x hx => ?_) _ h3
  simp only
  cases hq : runOps P G (call P G K n2) ops os ⟨t', sz, H2⟩ with
  | none => rw [hq] at hx; cases hx
  | some y => rw [runOps_mono (call_mono (Nat.le_max_right n1 n2)) _ _ _ hq]; rw [hq] at hx; exact hx⟩
theorem wo_call {d : Tmp} {op : Op} {ty : TypeId} {pos : String} {af : Array Edge} {g : FuncId} {args : List Value} {R : Value → Heap → Prop} (ha : AP P (aevF f) ⟨some d, op, ty, pos, af, none⟩ H (.enter g args, H1)) (ho : op.operands.toList.all (opnOK G) = true) (hd : Nat.ble (d + 1) sz = true)
    (hc : C P G K g args H1 R) (h : ∀ v H2, R v H2 → WO P G K sz ops os k (upd f d v) H2 Q) : WO P G K sz ops (⟨some d, op, ty, pos, af, none⟩ :: os) k f H Q := wo_callG ha ho hd hc h
end

/-- A loop, by a relation and a number that falls. -/
theorem wk_loop_inv {b : Code} (I : Nat → Fn → Heap → Prop) (m : Nat) (h0 : I m f H)
    (step : ∀ m f H, I m f H → (∀ m' f' H', m' < m → I m' f' H' → WK P G K sz (.loop b) k f' H' Q) → WK P G K sz b (.seq (.loop b) :: k) f H Q) : WK P G K sz (.loop b) k f H Q := by
  have key : ∀ n m, m ≤ n → ∀ f H, I m f H → WK P G K sz (.loop b) k f H Q := by
    intro n
    induction n with
    | zero =>
      intro m hm f H hI
      refine wk_loop (step m f H hI fun m' f' H' hlt _ => ?_)
      omega
    | succ n ih =>
      intro m hm f H hI
      exact wk_loop (step m f H hI fun m' f' H' hlt hI' => ih m' (by omega) f' H' hI')
  exact key m m (Nat.le_refl _) f H h0

def resultsF (P : Program) (f : Fn) (H : Heap) : List ResultVar → Option (List Value)
  | [] => some []
  | .tmp t :: rs =>
    match resultsF P f H rs with
    | some l => some (f t :: l)
    | none => none
  | .cell a t :: rs =>
    match f a with
    | .pointer (some p) =>
      match H.loadV P t p, resultsF P f H rs with
      | some v, some l => some (v :: l)
      | _, _ => none
    | _ => none
theorem resultsF_eq (s : St) : ∀ rs, resultsL P s rs = resultsF P (lget s.tmps) s.heap rs
  | [] => rfl
  | .tmp t :: rs => by unfold resultsL resultsF; rw [resultsF_eq s rs]; cases resultsF P (lget s.tmps) s.heap rs <;> rfl
  | .cell a t :: rs => by
    unfold resultsL resultsF
    cases lget s.tmps a with
    | pointer p => cases p with
      | none => rfl
      | some p => simp only [resultsF_eq s rs]; cases s.heap.loadV P t p <;> cases resultsF P (lget s.tmps) s.heap rs <;> rfl
    | _ => rfl

theorem c_enter {fi : FuncId} {fn : Func} {args : List Value} {R : Value → Heap → Prop} (hfn : P.funcs[fi]? = some fn) (hc : fn.body = some c) (hK : K fi args = none)
    (h : WK P G K (Nat.max args.length fn.ntmps) c [] (argF args) H fun e f' H' => (e = .normal ∨ e = .ret) ∧ ∃ l, resultsF P f' H' fn.results.toList = some l ∧ R (resultOf l) H') : C P G K fi args H R := by
  obtain ⟨n, e, s', h1, he, l, hl, hr⟩ := h.out (argTmps 0 args .nil) (argTmps_fn args)
  refine ⟨n + 1, resultOf l, s'.heap, ?_, hr⟩
  show callK K (callC P (exec P G K (n + 1))) fi args H = _
  have h1' : exec P G K (n + 1) c ⟨argTmps 0 args .nil, Nat.max args.length fn.ntmps, H⟩ = some (e, s') := h1
  unfold callK callC
  rw [hK]
  simp only [hfn, hc, h1']
  rw [← resultsF_eq] at hl
  rcases he with rfl | rfl
  · simp only [hl]
  · simp only [hl]
theorem c_known {fi : FuncId} {args : List Value} {v : Value} {R : Value → Heap → Prop} (hK : K fi args = some v) (h : R v H) : C P G K fi args H R :=
  ⟨0, v, H, by show callK K _ fi args H = _; unfold callK; rw [hK], h⟩
end
end Go.R
end
