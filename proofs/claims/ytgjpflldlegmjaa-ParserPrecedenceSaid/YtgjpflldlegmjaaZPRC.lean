/-
 Symbolic runs over the evaluator: heaps with owners, what cells stand for, one lemma for each kind of operation. No condition beyond those that each statement names.
-/
import Derived.Test.YtgjpflldlegmjaaZPRB
noncomputable section
set_option linter.unusedVariables false
namespace Go.R
abbrev Fn := Nat → Value
def upd (f : Fn) (i : Nat) (v : Value) : Fn := fun j => bif Nat.beq i j then v else f j
def updO (f : Fn) (d : Option Tmp) (v : Value) : Fn := match d with
 | some d => upd f d v
 | none => f
def updL (f : Fn) : List (Nat × Value) → Fn
 | [] => f
 | (i, v) :: l => upd (updL f l) i v
def agrees (f : Fn) : List (Nat × Value) → Prop
 | [] => True
 | (i, v) :: l => f i = v ∧ agrees f l
def aevF (f : Fn) : Operand → Value
 | .tmp t => f t
 | .const v => v
 | .global g => .pointer (some ⟨g, 0, none⟩)
 | .func i => .func (.func i) #[] #[]
def argF (l : List Value) : Fn := fun j => l.getD j undef
theorem upd_self (f : Fn) {i : Nat} {v : Value} (h : f i = v) : upd f i v = f := by
 funext j
 unfold upd
 cases hb : Nat.beq i j with
 | true => have := Nat.eq_of_beq_eq_true hb; subst this; exact h.symm
 | false => rfl
theorem updL_self {f : Fn} : ∀ {l : List (Nat × Value)}, agrees f l → updL f l = f
 | [], _ => rfl
 | (i, v) :: l, h => by
  unfold updL
  rw [updL_self h.2]
  exact upd_self f h.1
theorem lget_lset_fn (t : Tr Value) (d : Nat) (v : Value) : lget (lset t d v) = upd (lget t) d v := by
 funext j
 rw [lget_lset]
 unfold upd
 by_cases h : d = j
 ·
  subst h; rw [if_pos rfl, Nat.beq_refl]; rfl
 ·
  rw [if_neg h]
  cases hb : Nat.beq d j with
  | true => exact absurd (Nat.eq_of_beq_eq_true hb) h
  | false => rfl
theorem aeval_fn (t : Tr Value) : aeval t = aevF (lget t) := by
 funext x; cases x <;> rfl
theorem argTmps_fn (args : List Value) : lget (argTmps 0 args .nil) = argF args := by
 funext j
 rw [argTmps_get]
 unfold argF
 by_cases h : j < args.length
 ·
  rw [if_pos (by omega)]; rfl
 ·
  rw [if_neg (by omega), List.getD_eq_getElem?_getD, List.getElem?_eq_none (by omega)]; rfl
inductive Fr where
 | seq (b : Code)
 | block (id : Nat)
section
variable {P : Program} {G : Nat} {K : Known} {sz : Nat} {Q : Ex → Fn → Heap → Prop}
def runK (P : Program) (G : Nat) (K : Known) (n : Nat) : List Fr → Option (Ex × St) → Option (Ex × St)
 | [], r => r
 | .seq b :: k, r => runK P G K n k (exSeq r (exec P G K n b))
 | .block id :: k, r => runK P G K n k (exBlock id r)
theorem runK_mono {n m : Nat} (h : n ≤ m) : ∀ (k : List Fr) (r r' : Option (Ex × St)), (∀ x, r = some x → r' = some x) → ∀ x, runK P G K n k r = some x → runK P G K m k r' = some x
 | [], r, r', hr, x, hx => hr x hx
 | .seq b :: k, r, r', hr, x, hx => runK_mono h k _ _ (fun _ hy => exSeq_mono hr (fun s y hy => exec_mono h b s y hy) hy) x hx
 | .block id :: k, r, r', hr, x, hx => runK_mono h k _ _ (fun _ hy => exBlock_mono hr hy) x hx
structure WK (P : Program) (G : Nat) (K : Known) (sz : Nat) (c : Code) (k : List Fr) (f : Fn) (H : Heap) (Q : Ex → Fn → Heap → Prop) : Prop where
 out : ∀ t, lget t = f → ∃ n e s', runK P G K (n + 1) k (exec P G K (n + 1) c ⟨t, sz, H⟩) = some (e, s') ∧ Q e (lget s'.tmps) s'.heap
structure WO (P : Program) (G : Nat) (K : Known) (sz : Nat) (ops : Array Oper) (os : List Oper) (k : List Fr) (f : Fn) (H : Heap) (Q : Ex → Fn → Heap → Prop) : Prop where
 out : ∀ t, lget t = f → ∃ n e s', runK P G K (n + 1) k (exRegion (runOps P G (call P G K n) ops os ⟨t, sz, H⟩)) = some (e, s') ∧ Q e (lget s'.tmps) s'.heap
structure C (P : Program) (G : Nat) (K : Known) (f : FuncId) (args : List Value) (H : Heap) (R : Value → Heap → Prop) : Prop where
 out : ∃ n v H', call P G K n f args H = some (v, H') ∧ R v H'
theorem C.mono {f : FuncId} {args : List Value} {H : Heap} {R R' : Value → Heap → Prop} (h : C P G K f args H R) (hr : ∀ v H', R v H' → R' v H') : C P G K f args H R' := by
 obtain ⟨n, v, H', h1, h2⟩ := h.out
 exact ⟨n, v, H', h1, hr _ _ h2⟩
variable {c : Code} {k : List Fr} {f : Fn} {H : Heap}
theorem wk_skip_seq {b : Code} (h : WK P G K sz b k f H Q) : WK P G K sz .skip (.seq b :: k) f H Q := ⟨h.out⟩
theorem wk_skip_block {id : Nat} (h : WK P G K sz .skip k f H Q) : WK P G K sz .skip (.block id :: k) f H Q := ⟨h.out⟩
theorem wk_seq {a b : Code} (h : WK P G K sz a (.seq b :: k) f H Q) : WK P G K sz (.seq a b) k f H Q := ⟨h.out⟩
theorem wk_block {id : Nat} {b : Code} (h : WK P G K sz b (.block id :: k) f H Q) : WK P G K sz (.block id b) k f H Q := ⟨h.out⟩
theorem wk_loop {b : Code} (h : WK P G K sz b (.seq (.loop b) :: k) f H Q) : WK P G K sz (.loop b) k f H Q := ⟨fun t ht => by
 obtain ⟨n, e, s', h1, h2⟩ := h.out t ht
 refine ⟨n + 1, e, s', ?_, h2⟩
 refine runK_mono (Nat.le_succ (n + 1)) k _ _ (fun x hx => ?_) _ h1
 show exSeq (exec P G K (n + 2) b ⟨t, sz, H⟩) (exec P G K (n + 1) (.loop b)) = some x
 exact exSeq_mono (fun y hy => exec_succ _ _ _ _ hy) (fun _ _ hy => hy) hx⟩
theorem wk_exit_seq {id : Nat} {b : Code} (h : WK P G K sz (.exit id) k f H Q) : WK P G K sz (.exit id) (.seq b :: k) f H Q := ⟨h.out⟩
theorem wk_exit_block {id : Nat} (h : WK P G K sz .skip k f H Q) : WK P G K sz (.exit id) (.block id :: k) f H Q := ⟨fun t ht => by
 obtain ⟨n, e, s', h1, h2⟩ := h.out t ht
 refine ⟨n, e, s', ?_, h2⟩
 show runK P G K (n + 1) k (exBlock id (some (.exit id, ⟨t, sz, H⟩))) = _
 unfold exBlock
 simp only [Nat.beq_refl, cond_true]
 exact h1⟩
theorem wk_exit_block_ne {id id' : Nat} (hne : Nat.beq id id' = false) (h : WK P G K sz (.exit id) k f H Q) : WK P G K sz (.exit id) (.block id' :: k) f H Q := ⟨fun t ht => by
 obtain ⟨n, e, s', h1, h2⟩ := h.out t ht
 refine ⟨n, e, s', ?_, h2⟩
 show runK P G K (n + 1) k (exBlock id' (some (.exit id, ⟨t, sz, H⟩))) = _
 unfold exBlock
 simp only [hne, cond_false]
 exact h1⟩
theorem runK_ret {n : Nat} {s : St} : ∀ k : List Fr, runK P G K n k (some (.ret, s)) = some (.ret, s)
 | [] => rfl
 | .seq _ :: k => runK_ret k
 | .block _ :: k => runK_ret k
theorem wk_ret (h : Q .ret f H) : WK P G K sz .ret k f H Q := ⟨fun t ht => ⟨0, .ret, ⟨t, sz, H⟩, runK_ret k, by rw [ht]; exact h⟩⟩
theorem wk_cond {x : Operand} {a b : Code} {v : Bool} (hx : aevF f x = .bool v) (ho : opnOK G x = true) (ht : v = true → WK P G K sz a k f H Q) (he : v = false → WK P G K sz b k f H Q) : WK P G K sz (.cond x a b) k f H Q := ⟨fun t hf => by
 have hcond : ∀ n, exec P G K (n + 1) (.cond x a b) ⟨t, sz, H⟩ = bif v then exec P G K (n + 1) a ⟨t, sz, H⟩ else exec P G K (n + 1) b ⟨t, sz, H⟩ := by
  intro n
  show (bif opnOK G x then exCond (aeval t x) _ _ else none) = _
  rw [ho, aeval_fn, hf, hx]
  rfl
 cases v with
 | true =>
  obtain ⟨n, e, s', h1, h2⟩ := (ht rfl).out t hf
  exact ⟨n, e, s', by rw [hcond]; exact h1, h2⟩
 | false =>
  obtain ⟨n, e, s', h1, h2⟩ := (he rfl).out t hf
  exact ⟨n, e, s', by rw [hcond]; exact h1, h2⟩⟩
theorem wk_true {x : Operand} {a b : Code} {v : Bool} (hx : aevF f x = .bool v) (hv : v = true) (ho : opnOK G x = true) (h : WK P G K sz a k f H Q) : WK P G K sz (.cond x a b) k f H Q :=
 wk_cond hx ho (fun _ => h) (fun e => by rw [hv] at e; cases e)
theorem wk_false {x : Operand} {a b : Code} {v : Bool} (hx : aevF f x = .bool v) (hv : v = false) (ho : opnOK G x = true) (h : WK P G K sz b k f H Q) : WK P G K sz (.cond x a b) k f H Q :=
 wk_cond hx ho (fun e => by rw [hv] at e; cases e) (fun _ => h)
theorem wk_region {id : Nat} {ops : Array Oper} (h : WO P G K sz ops ops.toList k f H Q) : WK P G K sz (.region id ops false) k f H Q := ⟨h.out⟩
theorem wo_nil {ops : Array Oper} (h : WK P G K sz .skip k f H Q) : WO P G K sz ops [] k f H Q := ⟨h.out⟩
theorem wk_canon (l : List (Nat × Value)) (hl : agrees f l) (h : ∀ g, WK P G K sz c k (updL g l) H Q) : WK P G K sz c k f H Q := by
 have := h f
 rwa [updL_self hl] at this
structure AP (P : Program) (ρ : Operand → Value) (o : Oper) (H : Heap) (r : AN × Heap) : Prop where
 eq : aop P ρ o H = some r
def dstOK (d : Option Tmp) (sz : Nat) : Bool := match d with
 | some d => Nat.ble (d + 1) sz
 | none => true
theorem put_fn {s : St} {d : Option Tmp} {v : Value} (hd : dstOK d s.size = true) : ∃ t', s.put d v = some { s with tmps := t' } ∧ lget t' = updO (lget s.tmps) d v := by
 unfold St.put
 cases d with
 | none => exact ⟨s.tmps, rfl, rfl⟩
 | some d =>
  have hd' : Nat.ble (d + 1) s.size = true := hd
  simp only [hd', cond_true]
  exact ⟨lset s.tmps d v, rfl, lget_lset_fn _ _ _⟩
section
variable {ops : Array Oper} {o : Oper} {os : List Oper} {v : Value} {H1 : Heap}
theorem step_val {t : Tr Value} (hg : o.guard = none) (ho : o.op.operands.toList.all (opnOK G) = true) (ha : aop P (aevF (lget t)) o H = some (.val v, H1)) (hd : dstOK o.dst sz = true) :
  ∃ t', (∀ cf, step P G cf ops o ⟨t, sz, H⟩ = some ⟨t', sz, H1⟩) ∧ lget t' = updO (lget t) o.dst v := by
 obtain ⟨t', h1, h2⟩ := put_fn (s := ⟨t, sz, H1⟩) (v := v) hd
 refine ⟨t', fun cf => ?_, h2⟩
 unfold step wantedL
 simp only [hg, cond_true, ho, aeval_fn, ha]
 exact h1
theorem step_skip {t : Tr Value} (hg : o.guard = none) (ho : o.op.operands.toList.all (opnOK G) = true) (ha : aop P (aevF (lget t)) o H = some (.skip, H1)) (hd : dstOK o.dst sz = true) :
  ∃ t', (∀ cf, step P G cf ops o ⟨t, sz, H⟩ = some ⟨t', sz, H1⟩) ∧ lget t' = updO (lget t) o.dst undef := by
 obtain ⟨t', h1, h2⟩ := put_fn (s := ⟨t, sz, H1⟩) (v := undef) hd
 refine ⟨t', fun cf => ?_, h2⟩
 unfold step wantedL
 simp only [hg, cond_true, ho, aeval_fn, ha]
 exact h1
theorem wo_val {d : Tmp} {op : Op} {ty : TypeId} {pos : String} {af : Array Edge} (ha : AP P (aevF f) ⟨some d, op, ty, pos, af, none⟩ H (.val v, H1)) (ho : op.operands.toList.all (opnOK G) = true) (hd : Nat.ble (d + 1) sz = true)
  (h : WO P G K sz ops os k (upd f d v) H1 Q) : WO P G K sz ops (⟨some d, op, ty, pos, af, none⟩ :: os) k f H Q := ⟨fun t ht => by
 obtain ⟨t', h1, h2⟩ := step_val (P := P) (G := G) (ops := ops) (t := t) (o := ⟨some d, op, ty, pos, af, none⟩) rfl ho (by rw [ht]; exact ha.eq) hd
 obtain ⟨n, e, s', h3, h4⟩ := h.out t' (by rw [h2, ht]; rfl)
 refine ⟨n, e, s', ?_, h4⟩
 rw [runOps_cons, h1]
 exact h3⟩
theorem wo_skip {op : Op} {ty : TypeId} {pos : String} {af : Array Edge} (ha : AP P (aevF f) ⟨none, op, ty, pos, af, none⟩ H (.skip, H1)) (ho : op.operands.toList.all (opnOK G) = true)
  (h : WO P G K sz ops os k f H1 Q) : WO P G K sz ops (⟨none, op, ty, pos, af, none⟩ :: os) k f H Q := ⟨fun t ht => by
 obtain ⟨t', h1, h2⟩ := step_skip (P := P) (G := G) (ops := ops) (t := t) (sz := sz) (o := ⟨none, op, ty, pos, af, none⟩) rfl ho (by rw [ht]; exact ha.eq) rfl
 obtain ⟨n, e, s', h3, h4⟩ := h.out t' (by rw [h2, ht]; rfl)
 refine ⟨n, e, s', ?_, h4⟩
 rw [runOps_cons, h1]
 exact h3⟩
theorem wo_callG {d : Option Tmp} {op : Op} {ty : TypeId} {pos : String} {af : Array Edge} {g : FuncId} {args : List Value} {R : Value → Heap → Prop} (ha : AP P (aevF f) ⟨d, op, ty, pos, af, none⟩ H (.enter g args, H1)) (ho : op.operands.toList.all (opnOK G) = true) (hd : dstOK d sz = true)
  (hc : C P G K g args H1 R) (h : ∀ v H2, R v H2 → WO P G K sz ops os k (updO f d v) H2 Q) : WO P G K sz ops (⟨d, op, ty, pos, af, none⟩ :: os) k f H Q := ⟨fun t ht => by
 obtain ⟨n1, v, H2, hc1, hr⟩ := hc.out
 have h0 := h v H2 hr
 obtain ⟨t', h1, h2⟩ := put_fn (s := ⟨t, sz, H2⟩) (v := v) hd
 obtain ⟨n2, e, s', h3, h4⟩ := h0.out t' (by rw [h2, ht])
 refine ⟨Nat.max n1 n2, e, s', ?_, h4⟩
 have hst : step P G (call P G K (Nat.max n1 n2)) ops ⟨d, op, ty, pos, af, none⟩ ⟨t, sz, H⟩ = some ⟨t', sz, H2⟩ := by
  unfold step wantedL
  simp only [cond_true, ho, aeval_fn, ht, ha.eq, call_mono (Nat.le_max_left n1 n2) _ _ _ _ hc1]
  exact h1
 rw [runOps_cons, hst]
 refine runK_mono (Nat.succ_le_succ (Nat.le_max_right n1 n2)) k _ _ (fun x hx => ?_) _ h3
 simp only
 cases hq : runOps P G (call P G K n2) ops os ⟨t', sz, H2⟩ with
 | none => rw [hq] at hx; cases hx
 | some y => rw [runOps_mono (call_mono (Nat.le_max_right n1 n2)) _ _ _ hq]; rw [hq] at hx; exact hx⟩
theorem wo_call {d : Tmp} {op : Op} {ty : TypeId} {pos : String} {af : Array Edge} {g : FuncId} {args : List Value} {R : Value → Heap → Prop} (ha : AP P (aevF f) ⟨some d, op, ty, pos, af, none⟩ H (.enter g args, H1)) (ho : op.operands.toList.all (opnOK G) = true) (hd : Nat.ble (d + 1) sz = true)
  (hc : C P G K g args H1 R) (h : ∀ v H2, R v H2 → WO P G K sz ops os k (upd f d v) H2 Q) : WO P G K sz ops (⟨some d, op, ty, pos, af, none⟩ :: os) k f H Q := wo_callG ha ho hd hc h
end
theorem wk_loop_inv {b : Code} (I : Nat → Fn → Heap → Prop) (m : Nat) (h0 : I m f H)
  (step : ∀ m f H, I m f H → (∀ m' f' H', m' < m → I m' f' H' → WK P G K sz (.loop b) k f' H' Q) → WK P G K sz b (.seq (.loop b) :: k) f H Q) : WK P G K sz (.loop b) k f H Q := by
 have key : ∀ n m, m ≤ n → ∀ f H, I m f H → WK P G K sz (.loop b) k f H Q := by
  intro n
  induction n with
  | zero =>
   intro m hm f H hI
   refine wk_loop (step m f H hI fun m' f' H' hlt _ => ?_)
   omega
  | succ n ih =>
   intro m hm f H hI
   exact wk_loop (step m f H hI fun m' f' H' hlt hI' => ih m' (by omega) f' H' hI')
 exact key m m (Nat.le_refl _) f H h0
def resultsF (P : Program) (f : Fn) (H : Heap) : List ResultVar → Option (List Value)
 | [] => some []
 | .tmp t :: rs =>
  match resultsF P f H rs with
  | some l => some (f t :: l)
  | none => none
 | .cell a t :: rs =>
  match f a with
  | .pointer (some p) =>
   match H.loadV P t p, resultsF P f H rs with
   | some v, some l => some (v :: l)
   | _, _ => none
  | _ => none
theorem resultsF_eq (s : St) : ∀ rs, resultsL P s rs = resultsF P (lget s.tmps) s.heap rs
 | [] => rfl
 | .tmp t :: rs => by unfold resultsL resultsF; rw [resultsF_eq s rs]; cases resultsF P (lget s.tmps) s.heap rs <;> rfl
 | .cell a t :: rs => by
  unfold resultsL resultsF
  cases lget s.tmps a with
  | pointer p => cases p with
   | none => rfl
   | some p => simp only [resultsF_eq s rs]; cases s.heap.loadV P t p <;> cases resultsF P (lget s.tmps) s.heap rs <;> rfl
  | _ => rfl
theorem c_enter {fi : FuncId} {fn : Func} {args : List Value} {R : Value → Heap → Prop} (hfn : P.funcs[fi]? = some fn) (hc : fn.body = some c) (hK : K fi args H = none)
  (h : WK P G K (Nat.max args.length fn.ntmps) c [] (argF args) H fun e f' H' => (e = .normal ∨ e = .ret) ∧ ∃ l, resultsF P f' H' fn.results.toList = some l ∧ R (resultOf l) H') : C P G K fi args H R := by
 obtain ⟨n, e, s', h1, he, l, hl, hr⟩ := h.out (argTmps 0 args .nil) (argTmps_fn args)
 refine ⟨n + 1, resultOf l, s'.heap, ?_, hr⟩
 show callK K (callC P (exec P G K (n + 1))) fi args H = _
 have h1' : exec P G K (n + 1) c ⟨argTmps 0 args .nil, Nat.max args.length fn.ntmps, H⟩ = some (e, s') := h1
 unfold callK callC
 rw [hK]
 simp only [hfn, hc, h1']
 rw [← resultsF_eq] at hl
 rcases he with rfl | rfl
 ·
  simp only [hl]
 ·
  simp only [hl]
end
end Go.R
end
noncomputable section
namespace Go.R
section
variable {P : Program} {ρ : Operand → Value} {d : Option Tmp} {ty : TypeId} {pos : String} {af : Array Edge} {gd : Option (Nat × Bool)} {H : Heap}
theorem ap_move {x : Operand} {v : Value} (h : ρ x = v) : AP P ρ ⟨d, .move x, ty, pos, af, gd⟩ H (.val v, H) := by subst h; exact ⟨rfl⟩
theorem ap_assign {x : Operand} {v : Value} (h : ρ x = v) : AP P ρ ⟨d, .assign x, ty, pos, af, gd⟩ H (.val v, H) := by subst h; exact ⟨rfl⟩
theorem ap_int {op : BinOp} {t yt : TypeId} {x y : Operand} {k k' : IntKind} {a b : Int} {v : Value} (hx : ρ x = .int k a) (hy : ρ y = .int k' b)
  (hv : (bif isShift op then shBin op k a b else bif kindEq k k' then intBin op k a b else none) = some v) : AP P ρ ⟨d, .binOp op t x y yt, ty, pos, af, gd⟩ H (.val v, H) := by
 refine ⟨?_⟩
 show aBin P ρ _ op t (ρ x) y H = _
 rw [hx]
 show binInt op k a (ρ y) H = _
 rw [hy]
 show ovl _ H = _
 rw [hv]; rfl
theorem ap_str {op : BinOp} {t yt : TypeId} {x y : Operand} {a b : ByteArray} {v : Value} (hx : ρ x = .string a) (hy : ρ y = .string b) (hv : strOp op a b = some v) :
  AP P ρ ⟨d, .binOp op t x y yt, ty, pos, af, gd⟩ H (.val v, H) := by
 refine ⟨?_⟩
 show aBin P ρ _ op t (ρ x) y H = _
 rw [hx]
 show binStr op a (ρ y) H = _
 rw [hy]
 show ovl _ H = _
 rw [hv]; rfl
theorem ap_not {t : TypeId} {x : Operand} {b : Bool} (hx : ρ x = .bool b) : AP P ρ ⟨d, .unOp .not t x, ty, pos, af, gd⟩ H (.val (.bool (!b)), H) := by
 refine ⟨?_⟩
 show aUn P ρ _ .not (ρ x) H = _
 rw [hx]; rfl
theorem ap_conv {s t : TypeId} {x : Operand} {k k' : IntKind} {n : Int} (hx : ρ x = .int k n) {u : TypeDesc} (hs : P.underlying s = some u) (ht : P.underlying t = some (.int k')) :
  AP P ρ ⟨d, .convert s t x, ty, pos, af, gd⟩ H (.val (.int k' (k'.wrap n)), H) := by
 refine ⟨?_⟩
 show aConvert P ρ _ s t (ρ x) H = _
 rw [hx]
 show ovl (convInt P s t n) H = _
 unfold convInt
 rw [hs, ht]; rfl
theorem ap_neg {t : TypeId} {x : Operand} {k : IntKind} {n : Int} (hx : ρ x = .int k n) : AP P ρ ⟨d, .unOp .neg t x, ty, pos, af, gd⟩ H (.val (.int k (k.wrap (0 - n))), H) := by
 refine ⟨?_⟩
 show aUn P ρ _ .neg (ρ x) H = _
 rw [hx]
 show plainOp P ρ _ H = _
 unfold plainOp
 have h1 : ((Op.unOp .neg t x).operands.toList.all fun x => noA1 (ρ x)) = true := by simp [Op.operands, hx, noA1, noA0]
 simp only [h1, cond_true]
 show (match pureRun P (execOp ρ ⟨d, .unOp .neg t x, ty, pos, af, gd⟩) with | some (.value v) => bif noA2 v then some (AN.val v, H) else none | _ => none) = _
 have h2 : pureRun P (execOp ρ ⟨d, .unOp .neg t x, ty, pos, af, gd⟩) = some (.value (.int k (k.wrap (0 - n)))) := by
  unfold execOp
  simp only [hx]
  rfl
 rw [h2]; rfl
theorem ap_cpl {t : TypeId} {x : Operand} {k : IntKind} {n : Int} (hx : ρ x = .int k n) : AP P ρ ⟨d, .unOp .xor t x, ty, pos, af, gd⟩ H (.val (.int k (bits .xor k (if k.signed then -1 else k.max) n)), H) := by
 refine ⟨?_⟩
 show aUn P ρ _ .xor (ρ x) H = _
 rw [hx]
 show plainOp P ρ _ H = _
 unfold plainOp
 have h1 : ((Op.unOp .xor t x).operands.toList.all fun x => noA1 (ρ x)) = true := by simp [Op.operands, hx, noA1, noA0]
 simp only [h1, cond_true]
 have h2 : pureRun P (execOp ρ ⟨d, .unOp .xor t x, ty, pos, af, gd⟩) = some (.value (.int k (bits .xor k (if k.signed then -1 else k.max) n))) := by
  unfold execOp
  simp only [hx]
  rfl
 rw [h2]; rfl
theorem ap_shl {t yt : TypeId} {x y : Operand} {k k' : IntKind} {a b : Int} (hx : ρ x = .int k a) (hy : ρ y = .int k' b) (hb : 0 ≤ b) :
  AP P ρ ⟨d, .binOp .shl t x y yt, ty, pos, af, gd⟩ H (.val (.int k (k.wrap (a * 2 ^ (Nat.min b.toNat k.bits)))), H) := by
 refine ⟨?_⟩
 obtain ⟨n, rfl⟩ := Int.eq_ofNat_of_zero_le hb
 exact (ap_int hx hy rfl).eq
theorem ap_shr {t yt : TypeId} {x y : Operand} {k k' : IntKind} {a b : Int} (hx : ρ x = .int k a) (hy : ρ y = .int k' b) (hb : 0 ≤ b) :
  AP P ρ ⟨d, .binOp .shr t x y yt, ty, pos, af, gd⟩ H (.val (.int k (a.fdiv (2 ^ (Nat.min b.toNat k.bits)))), H) := by
 refine ⟨?_⟩
 obtain ⟨n, rfl⟩ := Int.eq_ofNat_of_zero_le hb
 exact (ap_int hx hy rfl).eq
theorem ap_indexAddr {t e : TypeId} {x i : Operand} {b o n k sz : Nat} {ki : IntKind} {j : Int} (hx : ρ x = .slice (some ⟨b, o, none⟩) n k) (hi : ρ i = .int ki j) (ht : P.underlying t = some (.slice e)) (hs : szOf P e = some sz)
  (h0 : 0 ≤ j) (hj : j < n) (hn : n ≤ k) : AP P ρ ⟨d, .indexAddr t x i, ty, pos, af, gd⟩ H (.val (.pointer (some ⟨b, o + j.toNat * sz, none⟩)), H) := by
 refine ⟨?_⟩
 obtain ⟨m, rfl⟩ := Int.eq_ofNat_of_zero_le h0
 show ovl (aIndexAddr P t (ρ x) (ρ i)) H = _
 rw [hx, hi]
 unfold aIndexAddr
 rw [ht]
 show ovl (match szOf P e with | some sz => bif Nat.ble (m + 1) n && Nat.ble n k then some (.pointer (some ⟨b, o + m * sz, none⟩)) else none | none => none) H = _
 rw [hs]
 have h1 : Nat.ble (m + 1) n = true := Nat.ble_eq_true_of_le (by omega)
 have h2 : Nat.ble n k = true := Nat.ble_eq_true_of_le hn
 simp only [h1, h2, Bool.and_self, cond_true]
 rfl
structure Keeps (H H' : Heap) : Prop where
 next : H.next ≤ H'.next
 get : ∀ b, b < H.next → H'.get b = H.get b
 log : ∃ d, H'.log = d ++ H.log ∧ ∀ b, b ∈ d → H.next ≤ b
theorem appL_nil (l : List Value) : appL l [] = l := by rw [appL_eq]; simp
theorem ap_call {args : Array Operand} {ats : Array TypeId} {i : FuncId} {fn : Func} {f : Fn} {l : List Value} (hf : P.funcs[i]? = some fn) (hb : (fn.body.isSome && !(fn.name == "runtime.NumGoroutine")) = true) (hl : mapL (aevF f) args.toList = l) :
  AP P (aevF f) ⟨d, .call ⟨.value (.func i), args, ats⟩, ty, pos, af, gd⟩ H (.enter i l, H) := by
 refine ⟨?_⟩
 show opCallee (aCallee P (.func (.func i) #[] #[]) (mapL (aevF f) args.toList)) H = _
 unfold aCallee
 simp only [hf, hb, cond_true, hl]
 show opCallee (some (.enter i (appL [] (appL l [])))) H = _
 rw [appL_nil]
 rfl
end
end Go.R
end
noncomputable section
namespace Go.R
def benign : Inf → Bool
 | .x w => isNilL w
 | _ => true
def vkAt (ops : Array Oper) (j : Nat) : Bool := match ops[j]? with
 | some o => valueKind o.op
 | none => false
def FsOK (ops : Array Oper) (wr : List Nat) (i : Nat) (fs : List (Nat × Inf)) : Prop := ∀ j g, (j, g) ∈ fs → j < i ∧ (benign g = true ∨ j ∈ wr) ∧ (vkAt ops j = true → g = .v)
theorem benign_compat : ∀ {f g : Inf}, benign f = true → benign g = true → compat f g = true
 | .v, _, _, _ => rfl
 | .a b, .v, _, _ => rfl
 | .a b, .a c, _, _ => rfl
 | .a b, .l c, _, _ => rfl
 | .a b, .x w, _, h => by cases w with
  | nil => rfl
  | cons _ _ => cases h
 | .l b, .v, _, _ => rfl
 | .l b, .a c, _, _ => rfl
 | .l b, .l c, _, _ => rfl
 | .l b, .x w, _, h => by cases w with
  | nil => rfl
  | cons _ _ => cases h
 | .x w, .v, _, _ => rfl
 | .x w, .a c, _, _ => rfl
 | .x w, .l c, h, _ => by cases w with
  | nil => rfl
  | cons _ _ => cases h
 | .x w, .x u, h, h' => by
  simp only [benign] at h h'
  simp only [compat, h, h', Bool.and_self]
theorem below_nil {n : Nat} : ∀ {l : List Nat}, (∀ b, b ∈ l → n ≤ b) → below n l = []
 | [], _ => rfl
 | c :: l, h => by
  have h1 : Nat.ble n c = true := Nat.ble_eq_true_of_le (h c (List.mem_cons_self ..))
  unfold below
  rw [h1]
  exact below_nil fun b hb => h b (List.mem_cons_of_mem _ hb)
theorem infOf_benign {ops : Array Oper} {o : Oper} {s : St} {n : Nat} {log : List Nat} (h : below n log = []) : benign (infOf ops o s n log) = true := by
 unfold infOf
 rw [h]
 cases (!wantedL ops o s.tmps || valueKind o.op) with
 | true => rfl
 | false =>
  simp only [cond_false]
  cases newKind o.op with
  | true => rfl
  | false =>
   simp only [cond_false]
   split
   ·
    split <;> rfl
   ·
    split <;> rfl
   ·
    split <;> rfl
   ·
    rfl
theorem allCompat_of {l : List Nat} {i : Nat} {f : Inf} : ∀ {fs : List (Nat × Inf)}, (∀ j g, (j, g) ∈ fs → (ordered l j i || compat g f) = true) → allCompat l i f fs = true
 | [], _ => rfl
 | (j, g) :: fs, h => by
  unfold allCompat
  rw [h j g (List.mem_cons_self ..), allCompat_of fun j g hm => h j g (List.mem_cons_of_mem _ hm)]; rfl
section
variable {P : Program} {G : Nat} {K : Known} {sz : Nat} {Q : Ex → Fn → Heap → Prop} {ops : Array Oper} {wr : List Nat} {i : Nat} {os : List Oper} {k : List Fr} {f : Fn} {H H1 : Heap} {v : Value}
 {d : Tmp} {op : Op} {ty : TypeId} {pos : String} {af : Array Edge}
structure WD (P : Program) (G : Nat) (K : Known) (sz : Nat) (ops : Array Oper) (wr : List Nat) (i : Nat) (os : List Oper) (k : List Fr) (f : Fn) (H : Heap) (Q : Ex → Fn → Heap → Prop) : Prop where
 out : ∀ t fs, lget t = f → FsOK ops wr i fs → ∃ n e s', runK P G K (n + 1) k (exRegion (runOpsD P G (call P G K n) ops i fs os ⟨t, sz, H⟩)) = some (e, s') ∧ Q e (lget s'.tmps) s'.heap
end
end Go.R
end
noncomputable section
namespace Go.R
def yieldF (ops : Array Oper) (f : Fn) (j : Nat) : Option Bool :=
 match (ops[j]?).bind (·.dst) with
 | some d =>
  match f d with
  | .bool b => some b
  | _ => none
 | none => none
theorem aop_guard {P : Program} {ρ : Operand → Value} {d : Option Tmp} {op : Op} {ty : TypeId} {pos : String} {af : Array Edge} (g g' : Option (Nat × Bool)) (H : Heap) :
  aop P ρ ⟨d, op, ty, pos, af, g⟩ H = aop P ρ ⟨d, op, ty, pos, af, g'⟩ H := by
 cases op <;> rfl
section
variable {P : Program} {G : Nat} {K : Known} {sz : Nat} {Q : Ex → Fn → Heap → Prop} {ops : Array Oper} {wr : List Nat} {i j : Nat} {os : List Oper} {k : List Fr} {f : Fn} {H H1 : Heap} {v want : Bool}
 {d : Option Tmp} {op : Op} {ty : TypeId} {pos : String} {af : Array Edge}
theorem wanted_fn {t : Tr Value} (ht : lget t = f) (hy : yieldF ops f j = some v) (o : Oper) (hg : o.guard = some (j, want)) : wantedL ops o t = (v == want) := by
 unfold wantedL
 rw [hg]
 have : yieldL ops t j = some v := by rw [← hy, ← ht]; rfl
 simp only [this]
 cases v <;> cases want <;> rfl
theorem step_guard {cf : CallF} {t : Tr Value} (ht : lget t = f) (hy : yieldF ops f j = some v) (hv : v = want) :
  step P G cf ops ⟨d, op, ty, pos, af, some (j, want)⟩ ⟨t, sz, H⟩ = step P G cf ops ⟨d, op, ty, pos, af, none⟩ ⟨t, sz, H⟩ := by
 unfold step
 rw [wanted_fn ht hy _ rfl, hv]
 have h1 : (want == want) = true := by cases want <;> rfl
 have h2 : wantedL ops ⟨d, op, ty, pos, af, none⟩ t = true := rfl
 simp only [h1, h2, cond_true, aop_guard (some (j, want)) none]
theorem step_unwanted {cf : CallF} {t : Tr Value} (ht : lget t = f) (hy : yieldF ops f j = some v) (hv : v = !want) :
  step P G cf ops ⟨d, op, ty, pos, af, some (j, want)⟩ ⟨t, sz, H⟩ = St.put ⟨t, sz, H⟩ d undef := by
 unfold step
 rw [wanted_fn ht hy _ rfl, hv]
 have h1 : ((!want) == want) = false := by cases want <;> rfl
 simp only [h1, cond_false]
theorem wo_gt (hy : yieldF ops f j = some v) (hv : v = want) (h : WO P G K sz ops (⟨d, op, ty, pos, af, none⟩ :: os) k f H Q) : WO P G K sz ops (⟨d, op, ty, pos, af, some (j, want)⟩ :: os) k f H Q := ⟨fun t ht => by
 obtain ⟨n, e, s', h1, h2⟩ := h.out t ht
 refine ⟨n, e, s', ?_, h2⟩
 rw [runOps_cons] at h1 ⊢
 rw [step_guard ht hy hv]; exact h1⟩
theorem wo_gf {d : Tmp} (hy : yieldF ops f j = some v) (hv : v = !want) (hd : Nat.ble (d + 1) sz = true) (h : WO P G K sz ops os k (upd f d undef) H Q) : WO P G K sz ops (⟨some d, op, ty, pos, af, some (j, want)⟩ :: os) k f H Q := ⟨fun t ht => by
 obtain ⟨t', h3, h4⟩ := put_fn (s := ⟨t, sz, H⟩) (d := some d) (v := undef) hd
 obtain ⟨n, e, s', h1, h2⟩ := h.out t' (by rw [h4, ht]; rfl)
 refine ⟨n, e, s', ?_, h2⟩
 rw [runOps_cons, step_unwanted ht hy hv, h3]; exact h1⟩
theorem wo_gn {d : Tmp} (hy : yieldF ops f j = none) (hd : Nat.ble (d + 1) sz = true) (h : WO P G K sz ops os k (upd f d undef) H Q) : WO P G K sz ops (⟨some d, op, ty, pos, af, some (j, want)⟩ :: os) k f H Q := ⟨fun t ht => by
 obtain ⟨t', h3, h4⟩ := put_fn (s := ⟨t, sz, H⟩) (d := some d) (v := undef) hd
 obtain ⟨n, e, s', h1, h2⟩ := h.out t' (by rw [h4, ht]; rfl)
 refine ⟨n, e, s', ?_, h2⟩
 have hw : wantedL ops ⟨some d, op, ty, pos, af, some (j, want)⟩ t = false := by
  unfold wantedL
  have : yieldL ops t j = none := by rw [← hy, ← ht]; rfl
  simp only [this]
  cases want <;> rfl
 have hst : step P G (call P G K n) ops ⟨some d, op, ty, pos, af, some (j, want)⟩ ⟨t, sz, H⟩ = St.put ⟨t, sz, H⟩ (some d) undef := by
  unfold step
  simp only [hw, cond_false]
 rw [runOps_cons, hst, h3]; exact h1⟩
end
section
variable {P : Program} {ρ : Operand → Value} {d : Option Tmp} {ty : TypeId} {pos : String} {af : Array Edge} {gd : Option (Nat × Bool)} {H : Heap}
def boolEqRun (op : BinOp) (t : TypeId) (x y : Operand) (a b : Bool) : Sem Next :=
 ((eqGuard op t x y (.bool a) (.bool b)) >>= fun _ => binOp op t (.bool a) (.bool b)) >>= fun r => Pure.pure (Next.value r)
theorem ap_boolEq {t yt : TypeId} {x y : Operand} {a b : Bool} (hx : ρ x = .bool a) (hy : ρ y = .bool b) (hrun : ∀ a b : Bool, pureRun P (boolEqRun .eql t x y a b) = some (.value (.bool (a == b)))) : AP P ρ ⟨d, .binOp .eql t x y yt, ty, pos, af, gd⟩ H (.val (.bool (a == b)), H) := by
 refine ⟨?_⟩
 show aBin P ρ _ .eql t (ρ x) y H = _
 rw [hx]
 show plainOp P ρ _ H = _
 unfold plainOp
 have h1 : ((Op.binOp .eql t x y yt).operands.toList.all fun x => noA1 (ρ x)) = true := by simp [Op.operands, hx, hy, noA1, noA0]
 simp only [h1, cond_true]
 have h2 : pureRun P (execOp ρ ⟨d, .binOp .eql t x y yt, ty, pos, af, gd⟩) = some (.value (.bool (a == b))) := by
  rw [← hrun a b]
  unfold execOp boolEqRun
  simp only [hx, hy]
 rw [h2]; rfl
end
end Go.R
end
noncomputable section
namespace Go.R
open Go.RowKit
def KX (ex : FuncId) : Known := fun f args _ => match args with
 | [] => bif Nat.beq f ex then some (.bool true) else none
 | _ => none
theorem kx_ok {P : Program} {ex : FuncId} (h : ∀ w, Calls P ex #[] w fun e w' => e = .returned (.bool true) ∧ Below w.heap.size w w') : KnownOK P 0 (KX ex) := by
 intro f args H v hk
 unfold KX at hk
 split at hk
 ·
  cases hq : Nat.beq f ex with
  | false => rw [hq] at hk; cases hk
  | true =>
   rw [hq] at hk
   simp only [cond_true, Option.some.injEq] at hk
   subst hk
   have := Nat.eq_of_beq_eq_true hq
   subst this
   refine ⟨rfl, rfl, fun μ cargs w hc _ _ => ?_⟩
   have : cargs = #[] := by cases cargs; simp_all
   subst this
   exact h w
 ·
  cases hk
theorem walk_of_C {P : Program} {K : Known} (hK : KnownOK P 0 K) {f : FuncId} {args : List Value} (ha : args.all noA2 = true) (h : C P 0 K f args Heap.empty fun v _ => v = .bool true) (cargs : Array Value) (w : World) (hc : cargs.toList = args) :
  Calls P f cargs w fun e w' => e = .returned (.bool true) ∧ Below w.heap.size w w' := by
 obtain ⟨n, v, H', h1, rfl⟩ := h.out
 exact calls_of_eval hK ha rfl h1 cargs w hc
end Go.R
end
noncomputable section
namespace Go.R
abbrev Fz := Nat → Option AObj
abbrev Fp := List (Nat × AObj)
def Fz.le (F F' : Fz) : Prop := ∀ b o, F b = some o → F' b = some o
theorem Fz.le_refl (F : Fz) : F.le F := fun _ _ h => h
theorem Fz.le_trans {A B C : Fz} (h : A.le B) (k : B.le C) : A.le C := fun b o x => k b o (h b o x)
def Fz.add (F : Fz) (b : Nat) (o : AObj) : Fz := fun j => bif Nat.beq b j then some o else F j
def Fz.addL (F : Fz) : Fp → Fz
 | [] => F
 | (b, o) :: p => (F.addL p).add b o
abbrev in64 (n : Int) : Prop := -9223372036854775808 ≤ n ∧ n < 9223372036854775808
structure Base where
 n0 : Nat
 W : List Nat
 lg : List Nat
def Base.of (H : Heap) (W : List Nat) : Base := ⟨H.next, W, H.log⟩
structure HS (B : Base) (F : Fz) (H : Heap) (L R : List Fp) : Prop where
 fz : ∀ b o, F b = some o → H.get b = some o ∧ b < H.next
 own : ∀ p, p ∈ L ∨ p ∈ R → ∀ b o, (b, o) ∈ p → H.get b = some o ∧ b < H.next ∧ F b = none
 nd : ((L ++ R).flatten.map Prod.fst).Nodup
 n0 : B.n0 ≤ H.next
 log : ∀ b, b ∈ H.log → b ∈ B.lg ∨ B.n0 ≤ b ∨ b ∈ B.W
 mine : ∀ p, p ∈ L → ∀ b o, (b, o) ∈ p → B.n0 ≤ b ∨ b ∈ B.W
theorem flat_sets {α : Type} : ∀ (L : List (List α)) (i : Nat) (p : List α), L[i]? = some p → ∃ A C, L = A ++ p :: C ∧ ∀ q, L.set i q = A ++ q :: C
 | [], _, _, h => by simp at h
 | x :: L, 0, p, h => by simp at h; subst h; exact ⟨[], L, rfl, fun _ => rfl⟩
 | x :: L, i + 1, p, h => by
  obtain ⟨A, C, h1, h2⟩ := flat_sets L i p (by simpa using h)
  exact ⟨x :: A, C, by rw [h1]; rfl, fun q => by rw [List.set_cons_succ, h2]; rfl⟩
theorem flat_set {α : Type} (L : List (List α)) (i : Nat) (p q : List α) (h : L[i]? = some p) : ∃ A C, L = A ++ p :: C ∧ L.set i q = A ++ q :: C := by
 obtain ⟨A, C, h1, h2⟩ := flat_sets L i p h
 exact ⟨A, C, h1, h2 q⟩
section
variable {B : Base} {F F' : Fz} {H H' : Heap} {L R : List Fp}
theorem HS.turn (h : HS B F H L R) {i : Nat} {p q : Fp} (hi : L[i]? = some p) (hn : H.next ≤ H'.next)
  (hget : ∀ b, b < H.next → (∀ o, (b, o) ∉ p) → H'.get b = H.get b)
  (hq : ∀ b o, (b, o) ∈ q → H'.get b = some o ∧ b < H'.next ∧ (H.next ≤ b ∨ ∃ o', (b, o') ∈ p)) (hnd : (q.map Prod.fst).Nodup)
  (hlog : ∀ b, b ∈ H'.log → b ∈ H.log ∨ H.next ≤ b ∨ ∃ o, (b, o) ∈ p) : HS B F H' (L.set i q) R := by
 obtain ⟨A, C, e1, e2⟩ := flat_set L i p q hi
 have hpL : p ∈ L := List.mem_of_getElem? hi
 have hnodup := h.nd
 rw [e1] at hnodup
 have hmem : ∀ x, x ∈ L.set i q ∨ x ∈ R → x = q ∨ ((x ∈ L ∨ x ∈ R) ∧ ∀ b o o', (b, o) ∈ x → (b, o') ∉ p) := by
  intro x hx
  have key : ∀ x, x ∈ A ∨ x ∈ C ∨ x ∈ R → ∀ b o o', (b, o) ∈ x → (b, o') ∉ p := by
   intro x hx b o o' hb hb'
   simp only [List.append_assoc, List.cons_append, List.flatten_append, List.flatten_cons, List.map_append, List.nodup_append, List.mem_append] at hnodup
   have hp' : b ∈ p.map Prod.fst := List.mem_map.2 ⟨_, hb', rfl⟩
   have hx' : b ∈ x.map Prod.fst := List.mem_map.2 ⟨_, hb, rfl⟩
   rcases hx with hx | hx | hx
   ·
    have : b ∈ A.flatten.map Prod.fst := List.mem_map.2 ⟨(b, o), List.mem_flatten.2 ⟨x, hx, hb⟩, rfl⟩
    exact hnodup.2.2 b this b (.inl hp') rfl
   ·
    have : b ∈ C.flatten.map Prod.fst := List.mem_map.2 ⟨(b, o), List.mem_flatten.2 ⟨x, hx, hb⟩, rfl⟩
    exact hnodup.2.1.2.2 b hp' b (.inl this) rfl
   ·
    have : b ∈ R.flatten.map Prod.fst := List.mem_map.2 ⟨(b, o), List.mem_flatten.2 ⟨x, hx, hb⟩, rfl⟩
    exact hnodup.2.1.2.2 b hp' b (.inr this) rfl
  rw [e2] at hx
  rcases hx with hx | hx
  ·
   rcases List.mem_append.1 hx with hx | hx
   ·
    exact .inr ⟨.inl (by rw [e1]; exact List.mem_append.2 (.inl hx)), key x (.inl hx)⟩
   ·
    rcases List.mem_cons.1 hx with rfl | hx
    ·
     exact .inl rfl
    ·
     exact .inr ⟨.inl (by rw [e1]; exact List.mem_append.2 (.inr (List.mem_cons_of_mem _ hx))), key x (.inr (.inl hx))⟩
  ·
   exact .inr ⟨.inr hx, key x (.inr (.inr hx))⟩
 have hFp : ∀ b o, (b, o) ∈ p → F b = none ∧ b < H.next := fun b o hb => ⟨(h.own p (.inl hpL) b o hb).2.2, (h.own p (.inl hpL) b o hb).2.1⟩
 refine ⟨fun b o hb => ?_, fun x hx b o hb => ?_, ?_, Nat.le_trans h.n0 hn, fun b hb => ?_, fun x hx b o hb => ?_⟩
 ·
  obtain ⟨h1, h2⟩ := h.fz b o hb
  refine ⟨?_, Nat.lt_of_lt_of_le h2 hn⟩
  rw [hget b h2 fun o' ho' => by rw [(hFp b o' ho').1] at hb; cases hb]; exact h1
 ·
  rcases hmem x hx with rfl | ⟨hx', hne⟩
  ·
   obtain ⟨h1, h2, h3⟩ := hq b o hb
   refine ⟨h1, h2, ?_⟩
   rcases h3 with h3 | ⟨o', ho'⟩
   ·
    cases hf : F b with
    | none => rfl
    | some z => have := (h.fz b z hf).2; omega
   ·
    exact (hFp b o' ho').1
  ·
   obtain ⟨h1, h2, h3⟩ := h.own x hx' b o hb
   exact ⟨by rw [hget b h2 fun o' => hne b o o' hb]; exact h1, Nat.lt_of_lt_of_le h2 hn, h3⟩
 ·
  rw [e2]
  have hlt : ∀ x, x ∈ A ∨ x ∈ C ∨ x ∈ R → ∀ b, b ∈ x.map Prod.fst → b < H.next ∧ ∀ o', (b, o') ∉ p := by
   intro x hx b hb
   obtain ⟨⟨b', o⟩, hb', rfl⟩ := List.mem_map.1 hb
   have hx2 : x ∈ L.set i q ∨ x ∈ R := by
    rw [e2]
    rcases hx with hx | hx | hx
    ·
     exact .inl (List.mem_append.2 (.inl hx))
    ·
     exact .inl (List.mem_append.2 (.inr (List.mem_cons_of_mem _ hx)))
    ·
     exact .inr hx
   have hxL : x ∈ L ∨ x ∈ R := by
    rw [e1]
    rcases hx with hx | hx | hx
    ·
     exact .inl (List.mem_append.2 (.inl hx))
    ·
     exact .inl (List.mem_append.2 (.inr (List.mem_cons_of_mem _ hx)))
    ·
     exact .inr hx
   refine ⟨(h.own x hxL b' o hb').2.1, fun o' ho' => ?_⟩
   have hnd2 := hnodup
   simp only [List.append_assoc, List.cons_append, List.flatten_append, List.flatten_cons, List.map_append, List.nodup_append, List.mem_append] at hnd2
   have hp' : b' ∈ p.map Prod.fst := List.mem_map.2 ⟨_, ho', rfl⟩
   rcases hx with hx | hx | hx
   ·
    exact hnd2.2.2 b' (List.mem_map.2 ⟨(b', o), List.mem_flatten.2 ⟨x, hx, hb'⟩, rfl⟩) b' (.inl hp') rfl
   ·
    exact hnd2.2.1.2.2 b' hp' b' (.inl (List.mem_map.2 ⟨(b', o), List.mem_flatten.2 ⟨x, hx, hb'⟩, rfl⟩)) rfl
   ·
    exact hnd2.2.1.2.2 b' hp' b' (.inr (List.mem_map.2 ⟨(b', o), List.mem_flatten.2 ⟨x, hx, hb'⟩, rfl⟩)) rfl
  have hfl : ∀ (X : List Fp) b, b ∈ X.flatten.map Prod.fst → ∃ x, x ∈ X ∧ b ∈ x.map Prod.fst := by
   intro X b hb
   obtain ⟨y, hy, rfl⟩ := List.mem_map.1 hb
   obtain ⟨x, hx, hyx⟩ := List.mem_flatten.1 hy
   exact ⟨x, hx, List.mem_map.2 ⟨y, hyx, rfl⟩⟩
  have hqf : ∀ b, b ∈ q.map Prod.fst → H.next ≤ b ∨ ∃ o', (b, o') ∈ p := by
   intro b hb
   obtain ⟨⟨b', o⟩, hb', rfl⟩ := List.mem_map.1 hb
   exact (hq b' o hb').2.2
  simp only [List.append_assoc, List.cons_append, List.flatten_append, List.flatten_cons, List.map_append, List.nodup_append, List.mem_append] at hnodup ⊢
  obtain ⟨n1, ⟨n2, ⟨n3, n4, n5⟩, n6⟩, n7⟩ := hnodup
  refine ⟨n1, ⟨hnd, ⟨n3, n4, n5⟩, fun a ha b hb hab => ?_⟩, fun a ha b hb hab => ?_⟩
  ·
   subst hab
   have hx : ∃ x, (x ∈ A ∨ x ∈ C ∨ x ∈ R) ∧ a ∈ x.map Prod.fst := by
    rcases hb with hb | hb
    ·
     obtain ⟨x, hx, h1⟩ := hfl C a hb; exact ⟨x, .inr (.inl hx), h1⟩
    ·
     obtain ⟨x, hx, h1⟩ := hfl R a hb; exact ⟨x, .inr (.inr hx), h1⟩
   obtain ⟨x, hx, h1⟩ := hx
   obtain ⟨h2, h3⟩ := hlt x hx a h1
   rcases hqf a ha with h4 | ⟨o', h4⟩
   ·
    omega
   ·
    exact h3 o' h4
  ·
   subst hab
   rcases hb with hb | hb
   ·
    obtain ⟨x, hx, h1⟩ := hfl A a ha
    obtain ⟨h2, h3⟩ := hlt x (.inl hx) a h1
    rcases hqf a hb with h4 | ⟨o', h4⟩
    ·
     omega
    ·
     exact h3 o' h4
   ·
    exact n7 a ha a (.inr hb) rfl
 ·
  rcases hlog b hb with h1 | h1 | ⟨o, h1⟩
  ·
   exact h.log b h1
  ·
   exact .inr (.inl (Nat.le_trans h.n0 h1))
  ·
   exact .inr (h.mine p hpL b o h1)
 ·
  have hx2 := hmem x (.inl hx)
  rcases hx2 with rfl | ⟨_, _⟩
  ·
   rcases (hq b o hb).2.2 with h3 | ⟨o', h3⟩
   ·
    exact .inl (Nat.le_trans h.n0 h3)
   ·
    exact h.mine p hpL b o' h3
  ·
   rw [e2] at hx
   rcases List.mem_append.1 hx with hx | hx
   ·
    exact h.mine x (by rw [e1]; exact List.mem_append.2 (.inl hx)) b o hb
   ·
    rcases List.mem_cons.1 hx with rfl | hx
    ·
     rcases (hq b o hb).2.2 with h3 | ⟨o', h3⟩
     ·
      exact .inl (Nat.le_trans h.n0 h3)
     ·
      exact h.mine p hpL b o' h3
    ·
     exact h.mine x (by rw [e1]; exact List.mem_append.2 (.inr (List.mem_cons_of_mem _ hx))) b o hb
theorem HS.snoc (h : HS B F H L R) : HS B F H (L ++ [[]]) R :=
 ⟨h.fz, fun p hp b o hb => by
  rcases hp with hp | hp
  ·
   rcases List.mem_append.1 hp with hp | hp
   ·
    exact h.own p (.inl hp) b o hb
   ·
    simp at hp; subst hp; simp at hb
  ·
   exact h.own p (.inr hp) b o hb, by simpa using h.nd, h.n0, h.log, fun p hp b o hb => by
  rcases List.mem_append.1 hp with hp | hp
  ·
   exact h.mine p hp b o hb
  ·
   simp at hp; subst hp; simp at hb⟩
theorem HS.push (h : HS B F H L R) (o : AObj) : HS B F (H.push o) (L ++ [[(H.next, o)]]) R := by
 have h1 := (h.snoc).turn (H' := H.push o) (i := L.length) (p := []) (q := [(H.next, o)]) (by simp) (by simp)
  (fun b hb _ => Heap.get_push_ne _ _ (by omega)) (fun b o' hb => by
   simp at hb; obtain ⟨rfl, rfl⟩ := hb
   exact ⟨Heap.get_push_same _ _, by simp, .inl (Nat.le_refl _)⟩) (by simp) (fun b hb => .inl (by simpa using hb))
 simpa using h1
theorem HS.put (h : HS B F H L R) {i b : Nat} {o o' : AObj} (hi : L[i]? = some [(b, o)]) : HS B F (H.put b o') (L.set i [(b, o')]) R :=
 h.turn hi (by simp) (fun c _ hne => Heap.get_put_ne _ _ fun e => hne o (by simp [e])) (fun c o2 hb => by
  simp at hb; obtain ⟨rfl, rfl⟩ := hb
  have := (h.own _ (.inl (List.mem_of_getElem? hi)) c o (by simp)).2.1
  exact ⟨Heap.get_put_same _ _ _, by simpa using this, .inr ⟨o, by simp⟩⟩) (by simp) (fun c hc => by
  rw [Heap.log_put] at hc
  rcases List.mem_cons.1 hc with rfl | hc
  ·
   exact .inr (.inr ⟨o, by simp⟩)
  ·
   exact .inl hc)
theorem HS.get (h : HS B F H L R) {i b : Nat} {p : Fp} {o : AObj} (hi : L[i]? = some p) (hb : (b, o) ∈ p) : H.get b = some o := (h.own p (.inl (List.mem_of_getElem? hi)) b o hb).1
theorem HS.callOwn (h : HS B F H L R) {i : Nat} {p : Fp} (hi : L[i]? = some p) : HS (.of H (p.map Prod.fst)) F H [p] (L.set i [] ++ R) := by
 obtain ⟨A, C, e1, e2⟩ := flat_set L i p [] hi
 have hpL : p ∈ L := List.mem_of_getElem? hi
 refine ⟨h.fz, fun x hx b o hb => ?_, ?_, Nat.le_refl _, fun b hb => .inl hb, fun x hx b o hb => ?_⟩
 ·
  rcases hx with hx | hx
  ·
   simp at hx; subst hx; exact h.own x (.inl hpL) b o hb
  ·
   rw [e2] at hx
   simp only [List.append_assoc, List.cons_append, List.mem_append, List.mem_cons] at hx
   rcases hx with hx | rfl | hx | hx
   ·
    exact h.own x (.inl (by rw [e1]; simp [hx])) b o hb
   ·
    simp at hb
   ·
    exact h.own x (.inl (by rw [e1]; simp [hx])) b o hb
   ·
    exact h.own x (.inr hx) b o hb
 ·
  have := h.nd
  rw [e1] at this
  rw [e2]
  have hperm : (([p] ++ (A ++ [] :: C ++ R)).flatten.map Prod.fst).Perm ((A ++ p :: C ++ R).flatten.map Prod.fst) := by
   simp only [List.flatten_append, List.flatten_cons, List.flatten_nil, List.append_nil, List.nil_append, List.map_append, List.append_assoc]
   exact List.perm_append_comm_assoc _ _ _
  exact hperm.nodup_iff.2 this
 ·
  simp at hx; subst hx
  exact .inr (List.mem_map.2 ⟨_, hb, rfl⟩)
theorem HS.backOwn {H0 : Heap} {W : List Nat} {p q : Fp} {M : List Fp} (h : HS B F H L R) {i : Nat} (hi : L[i]? = some p) (hH : H0 = H) (hW : ∀ b, b ∈ W → b ∈ p.map Prod.fst) (k : HS (.of H0 W) F' H' (q :: M) (L.set i [] ++ R)) : HS B F' H' (L.set i q ++ M) R := by
 subst hH
 obtain ⟨A, C, e1, e2⟩ := flat_sets L i p hi
 have hpL : p ∈ L := List.mem_of_getElem? hi
 have hWm : ∀ b, b ∈ W → B.n0 ≤ b ∨ b ∈ B.W := fun b hb => by
  obtain ⟨⟨b', o⟩, hb', rfl⟩ := List.mem_map.1 (hW b hb)
  exact h.mine p hpL b' o hb'
 have hin : ∀ x, x ∈ A ++ q :: C ++ M ∨ x ∈ R → x ∈ q :: M ∨ x ∈ A ++ [] :: C ++ R := by
  intro x hx
  simp only [List.append_assoc, List.cons_append, List.mem_append, List.mem_cons] at hx ⊢
  rcases hx with (hx | hx | hx | hx) | hx
  ·
   exact .inr (.inl hx)
  ·
   exact .inl (.inl hx)
  ·
   exact .inr (.inr (.inr (.inl hx)))
  ·
   exact .inl (.inr hx)
  ·
   exact .inr (.inr (.inr (.inr hx)))
 have hmk : ∀ x, x ∈ q :: M → ∀ b o, (b, o) ∈ x → B.n0 ≤ b ∨ b ∈ B.W := fun x hx b o hb => by
  rcases k.mine x hx b o hb with h1 | h1
  ·
   exact .inl (Nat.le_trans h.n0 h1)
  ·
   exact hWm b h1
 rw [e2] at k ⊢
 refine ⟨k.fz, fun x hx b o hb => k.own x (hin x hx) b o hb, ?_, Nat.le_trans h.n0 k.n0, fun b hb => ?_, fun x hx b o hb => ?_⟩
 ·
  have := k.nd
  have hperm : ((A ++ q :: C ++ M ++ R).flatten.map Prod.fst).Perm ((q :: M ++ (A ++ [] :: C ++ R)).flatten.map Prod.fst) := by
   simp only [List.flatten_append, List.flatten_cons, List.nil_append, List.map_append, List.append_assoc, List.cons_append]
   have h1 : ∀ (a c m q r : List Nat), (a ++ (q ++ (c ++ (m ++ r)))).Perm (q ++ (m ++ (a ++ (c ++ r)))) := by
    intro a c m q r
    refine List.Perm.trans (List.perm_append_comm_assoc a q _) (List.Perm.append_left q ?_)
    refine List.Perm.trans (List.Perm.append_left a (List.perm_append_comm_assoc c m r)) ?_
    exact List.perm_append_comm_assoc a m _
   exact h1 _ _ _ _ _
  exact hperm.nodup_iff.2 this
 ·
  rcases k.log b hb with h1 | h1 | h1
  ·
   exact h.log b h1
  ·
   exact .inr (.inl (Nat.le_trans h.n0 h1))
  ·
   exact .inr (hWm b h1)
 ·
  simp only [List.append_assoc, List.cons_append, List.mem_append, List.mem_cons] at hx
  rcases hx with hx | rfl | hx | hx
  ·
   exact h.mine x (by rw [e1]; simp [hx]) b o hb
  ·
   exact hmk x (by simp) b o hb
  ·
   exact h.mine x (by rw [e1]; simp [hx]) b o hb
  ·
   exact hmk x (by simp [hx]) b o hb
end
end Go.R
end
noncomputable section
namespace Go.R
class Rp (α : Type) where
 sz : Nat
 rep : Fz → List Value → α → Prop
 len : ∀ {F : Fz} {cs : List Value} {x : α}, rep F cs x → cs.length = sz
 one : ∀ {F : Fz} {cs : List Value} {x : α}, rep F cs x → allL Value.oneCell' cs = true
 mono : ∀ {F F' : Fz} {cs : List Value} {x : α}, F.le F' → rep F cs x → rep F' cs x
def RL {α : Type} [Rp α] (F : Fz) : List Value → List α → Prop
 | cs, [] => cs = []
 | cs, x :: l => ∃ c r, cs = c ++ r ∧ Rp.rep F c x ∧ RL F r l
section
variable {α : Type} [Rp α] {F F' : Fz}
theorem RL.mono (hF : F.le F') : ∀ {l : List α} {cs : List Value}, RL F cs l → RL F' cs l
 | [], _, h => h
 | _ :: _, _, ⟨c, r, e, h1, h2⟩ => ⟨c, r, e, Rp.mono hF h1, RL.mono hF h2⟩
def Sl (F : Fz) (o : AObj) (off k : Nat) (l : List α) : Prop := ∃ cs opn ro, o = .cells cs opn ro ∧ (ro = false → off + k * Rp.sz α ≤ cs.length) ∧ l.length ≤ k ∧ RL F ((cs.drop off).take (l.length * Rp.sz α)) l ∧ (opn = none ∨ opn = some (Rp.sz α))
def Sv (F : Fz) (get : Nat → Option AObj) (v : Value) (l : List α) : Prop :=
 (v = .slice none 0 0 ∧ l = []) ∨ ∃ b off k o, v = .slice (some ⟨b, off, none⟩) l.length k ∧ get b = some o ∧ Sl F o off k l
def SR (F : Fz) (v : Value) (l : List α) : Prop := Sv F F v l
def OS (F : Fz) (v : Value) (l : List α) (p : Fp) : Prop :=
 (v = .slice none 0 0 ∧ l = [] ∧ p = []) ∨ ∃ b off k cs opn, v = .slice (some ⟨b, off, none⟩) l.length k ∧ p = [(b, .cells cs opn false)] ∧ Sl F (.cells cs opn false) off k l
theorem Sl.mono (hF : F.le F') {o : AObj} {off k : Nat} {l : List α} (h : Sl F o off k l) : Sl F' o off k l := by
 obtain ⟨cs, opn, ro, h1, h2, h3, h4, h5⟩ := h
 exact ⟨cs, opn, ro, h1, h2, h3, h4.mono hF, h5⟩
theorem SR.mono (hF : F.le F') {v : Value} {l : List α} (h : SR F v l) : SR F' v l := by
 rcases h with h | ⟨b, off, k, o, h1, h2, h3⟩
 ·
  exact .inl h
 ·
  exact .inr ⟨b, off, k, o, h1, hF _ _ h2, h3.mono hF⟩
theorem OS.mono (hF : F.le F') {v : Value} {l : List α} {p : Fp} (h : OS F v l p) : OS F' v l p := by
 rcases h with h | ⟨b, off, k, cs, opn, h1, h2, h3⟩
 ·
  exact .inl h
 ·
  exact .inr ⟨b, off, k, cs, opn, h1, h2, h3.mono hF⟩
variable {B : Base} {H : Heap} {L R : List Fp} {v : Value} {l : List α} {p : Fp}
def sB : Value → Nat
 | .slice (some a) _ _ => a.block
 | _ => 0
def sO : Value → Nat
 | .slice (some a) _ _ => a.off
 | _ => 0
def HC (get : Nat → Option AObj) (b o : Nat) (cs : List Value) : Prop := ∃ all opn ro, get b = some (.cells all opn ro) ∧ (all.drop o).take cs.length = cs
theorem HC.same {get : Nat → Option AObj} {b : Nat} {cs : List Value} {opn : Option Nat} {ro : Bool} (h : get b = some (.cells cs opn ro)) : HC get b 0 cs := ⟨cs, opn, ro, h, by simp⟩
instance : Rp Int where
 sz := 1
 rep _ cs n := cs = [.int .i64 n] ∧ in64 n
 len := by rintro F cs x ⟨rfl, _⟩; rfl
 one := by rintro F cs x ⟨rfl, _⟩; rfl
 mono := by intro F F' cs x _ h; exact h
instance : Rp Bool where
 sz := 1
 rep _ cs n := cs = [.bool n]
 len := by rintro F cs x rfl; rfl
 one := by rintro F cs x rfl; rfl
 mono := by intro F F' cs x _ h; exact h
structure Str where
 b : List UInt8
 deriving DecidableEq, Inhabited
instance : Rp Str where
 sz := 1
 rep _ cs s := cs = [.string ⟨⟨s.b⟩⟩]
 len := by rintro F cs x rfl; rfl
 one := by rintro F cs x rfl; rfl
 mono := by intro F F' cs x _ h; exact h
structure U64 where
 n : Int
 deriving DecidableEq, Inhabited
instance : Rp U64 where
 sz := 1
 rep _ cs s := cs = [.int .u64 s.n] ∧ 0 ≤ s.n ∧ s.n < 18446744073709551616
 len := by rintro F cs x ⟨rfl, _⟩; rfl
 one := by rintro F cs x ⟨rfl, _⟩; rfl
 mono := by intro F F' cs x _ h; exact h
instance : Rp UInt8 where
 sz := 1
 rep _ cs s := cs = [.int .u8 s.toNat]
 len := by rintro F cs x rfl; rfl
 one := by rintro F cs x rfl; rfl
 mono := by intro F F' cs x _ h; exact h
instance : Rp (List α) where
 sz := 1
 rep F cs l := ∃ a k, cs = [.slice a l.length k] ∧ SR F (.slice a l.length k) l
 len := by rintro F cs x ⟨a, k, rfl, _⟩; rfl
 one := by rintro F cs x ⟨a, k, rfl, h⟩; rfl
 mono := by rintro F F' cs x hF ⟨a, k, rfl, h⟩; exact ⟨a, k, rfl, h.mono hF⟩
end
end Go.R
end
noncomputable section
namespace Go.R
section
variable {α : Type} [Rp α] {P : Program} {ρ : Operand → Value} {d : Option Tmp} {ty : TypeId} {pos : String} {af : Array Edge} {gd : Option (Nat × Bool)} {B : Base} {F : Fz} {H : Heap} {L R : List Fp} {v : Value} {l : List α} {p : Fp}
theorem ap_lenS {x : Operand} {t : TypeId} {s : List UInt8} (hx : ρ x = .string ⟨⟨s⟩⟩) (ht : P.underlying t = some .string) :
  AP P ρ ⟨d, .call ⟨.builtin .len, #[x], #[t]⟩, ty, pos, af, gd⟩ H (.val (.int .i64 s.length), H) := by
 refine ⟨?_⟩
 show ovl (aLen P t (ρ x) H) H = _
 rw [hx]
 unfold aLen
 rw [ht]
 show ovl (some (goInt (lenL s))) H = _
 rw [lenL_eq]; rfl
theorem ap_fv {t : TypeId} {x : Operand} {f : Nat} {u w : Value} (hx : ρ x = u) (h : aFieldV P t u f = some w) : AP P ρ ⟨d, .field t x f, ty, pos, af, gd⟩ H (.val w, H) := by
 refine ⟨?_⟩
 show ovl (aFieldV P t (ρ x) f) H = _
 rw [hx, h]; rfl
theorem ap_ex {x : Operand} {i : Nat} {u w : Value} (hx : ρ x = u) (h : aExtract u i = some w) : AP P ρ ⟨d, .extract x i, ty, pos, af, gd⟩ H (.val w, H) := by
 refine ⟨?_⟩
 show ovl (aExtract (ρ x) i) H = _
 rw [hx, h]; rfl
theorem ap_bld {t : TypeId} {parts : Array (Nat × Operand)} {ps : Array (Nat × Value)} {z : List Value} {w : Value} (hp : parts.map (fun p => (p.1, ρ p.2)) = ps) (hz : zeroOf P t = some z) (h : pureRun P (Instr.build t ps) = some w) :
  AP P ρ ⟨d, .build t parts, ty, pos, af, gd⟩ H (.val w, H) := by
 refine ⟨?_⟩
 show opBuild P t (parts.map fun p => (p.1, ρ p.2)) H = _
 rw [hp]
 unfold opBuild
 rw [hz]
 show lift P (Instr.build t ps) H = _
 unfold lift
 rw [h]
theorem ap_alloc {e : TypeId} {z : List Value} (hz : zeroOf P e = some z) : AP P ρ ⟨d, .alloc e, ty, pos, af, gd⟩ H (.val (.pointer (some ⟨H.next, 0, none⟩)), H.push (.cells z none false)) := by
 refine ⟨?_⟩
 show opAlloc P e H = _
 unfold opAlloc
 rw [hz]; rfl
theorem storeL_of {b o : Nat} {cs vs : List Value} {opn : Option Nat} (hg : H.get b = some (.cells cs opn false)) (hn : o + vs.length ≤ cs.length) (h1 : allL Value.oneCell' vs = true) : H.storeL ⟨b, o, none⟩ vs = some (H.put b (.cells (splice cs o vs) opn false)) := by
 unfold Heap.storeL
 have : Nat.ble (Nat.add o (lenL vs)) (lenL cs) = true := Nat.ble_eq_true_of_le (by rw [lenL_eq, lenL_eq]; exact hn)
 simp only [hg, this, h1, Bool.and_self, cond_true]
theorem ap_st {t : TypeId} {a x : Operand} {b o n : Nat} {u : Value} {cl : List Value} {H1 : Heap} (ha : ρ a = .pointer (some ⟨b, o, none⟩)) (hx : ρ x = u) (hn : szOf P t = some n) (hc : u.cells.toList = cl) (hl : Nat.beq cl.length n = true) (hst : H.storeL ⟨b, o, none⟩ cl = some H1) :
  AP P ρ ⟨d, .store t a x, ty, pos, af, gd⟩ H (.skip, H1) := by
 refine ⟨?_⟩
 show opStore P t (ρ a) (ρ x) H = _
 rw [ha, hx]
 unfold opStore
 have : u.cells.size = cl.length := by rw [← hc]; simp
 rw [this, hn]
 simp only [hl, cond_true, hc, hst]
 rfl
theorem HS.st (hs : HS B F H L R) {i b o : Nat} {cs cl cs' : List Value} (hi : L[i]? = some [(b, .cells cs none false)]) (hn : Nat.ble (o + cl.length) cs.length = true) (h1 : allL Value.oneCell' cl = true) (he : splice cs o cl = cs') :
  ∃ H1, H.storeL ⟨b, o, none⟩ cl = some H1 ∧ HS B F H1 (L.set i [(b, .cells cs' none false)]) R := by
 subst he
 exact ⟨_, storeL_of (hs.get hi (List.mem_singleton.2 rfl)) (Nat.le_of_ble_eq_true hn) h1, hs.put hi⟩
theorem HS.hc (hs : HS B F H L R) {i b : Nat} {cs : List Value} (hi : L[i]? = some [(b, .cells cs none false)]) : HC H.get b 0 cs := HC.same (hs.get hi (List.mem_singleton.2 rfl))
end
end Go.R
end
noncomputable section
set_option linter.unusedVariables false
namespace Go.R
section
variable {P : Program} {G : Nat} {cf : CallF} {ops : Array Oper}
def SizeOK (ex : Code → St → Option (Ex × St)) : Prop := ∀ c s e s', ex c s = some (e, s') → s'.size = s.size
end
section
variable {P : Program} {G : Nat} {K : Known} {sz : Nat} {Q Q1 : Ex → Fn → Heap → Prop} {c : Code} {k : List Fr} {f : Fn} {H : Heap}
def inR (lo hi : Nat) (ex : List Nat) (j : Nat) : Bool := (Nat.ble lo j && Nat.ble j hi) || memB j ex
def hav (lo hi : Nat) (ex : List Nat) (g f : Fn) : Fn := fun j => bif inR lo hi ex j then g j else f j
structure Leaves (lo hi : Nat) (ex : List Nat) (f f' : Fn) : Prop where
 out : ∀ j, inR lo hi ex j = false → f' j = f j
theorem Leaves.eq {lo hi : Nat} {ex : List Nat} {f f' : Fn} (h : Leaves lo hi ex f f') : f' = hav lo hi ex f' f := by
 funext j
 unfold hav
 cases hb : inR lo hi ex j with
 | true => rfl
 | false => exact h.out j hb
end
inductive ID where
 | v
 | a
 | r
 | l (b : Nat)
 | x (W : List Nat)
 | q (S : Nat → Prop)
def ID.fits : ID → Inf → Prop
 | .v, g => g = .v
 | .a, g => ∃ b, g = .a b
 | .r, g => benign g = true
 | .l b, g => g = .l b
 | .x W, g => ∃ w, g = .x w ∧ ∀ b, b ∈ w → b ∈ W
 | .q S, g => g = .v ∨ ∃ b, g = .l b ∧ S b
def ID.nilW : List Nat → Prop
 | [] => True
 | _ => False
def cD : ID → ID → Prop
 | .v, _ => True
 | _, .v => True
 | .q S, .x W => ∀ b, b ∈ W → ¬ S b
 | .x W, .q S => ∀ b, b ∈ W → ¬ S b
 | .l b, .x W => b ∉ W
 | .x W, .l b => b ∉ W
 | .x W, .x U => ID.nilW W ∧ ID.nilW U
 | .a, .x W => ID.nilW W
 | .r, .x W => ID.nilW W
 | .x _, .a => True
 | .x W, .r => ID.nilW W
 | _, _ => True
theorem memB_false {b : Nat} : ∀ {l : List Nat}, b ∉ l → memB b l = false
 | [], _ => rfl
 | c :: l, h => by
  simp only [List.mem_cons, not_or] at h
  unfold memB
  have : Nat.beq b c = false := by
   cases hb : Nat.beq b c with
   | false => rfl
   | true => exact absurd (Nat.eq_of_beq_eq_true hb) h.1
  rw [this, memB_false h.2]; rfl
theorem fits_benign : ∀ {d : ID} {g : Inf}, d.fits g → (∀ W, d ≠ .x W) → benign g = true
 | .v, _, h, _ => by subst h; rfl
 | .a, _, ⟨_, h⟩, _ => by subst h; rfl
 | .r, _, h, _ => h
 | .l _, _, h, _ => by subst h; rfl
 | .x W, _, _, h => absurd rfl (h W)
 | .q _, _, h, _ => by rcases h with rfl | ⟨_, rfl, _⟩ <;> rfl
theorem nilW_benign {W : List Nat} {g : Inf} (h : ID.nilW W) (hf : ID.fits (.x W) g) : benign g = true := by
 obtain ⟨w, rfl, hw⟩ := hf
 cases W with
 | nil =>
  cases w with
  | nil => rfl
  | cons a t => have := hw a (by simp); simp at this
 | cons _ _ => exact absurd h id
theorem compat_of {d e : ID} {f g : Inf} (hd : d.fits f) (he : e.fits g) (h : cD d e) : compat f g = true := by
 have key : benign f = true → benign g = true → compat f g = true := benign_compat
 cases d with
 | v => rw [show f = .v from hd]; rfl
 | a =>
  cases e with
  | x W => exact key (fits_benign hd (by intro W h; cases h)) (nilW_benign h he)
  | v => rw [show g = .v from he]; cases f <;> rfl
  | _ => exact key (fits_benign hd (by intro W h; cases h)) (fits_benign he (by intro W h; cases h))
 | r =>
  cases e with
  | x W => exact key (fits_benign hd (by intro W h; cases h)) (nilW_benign h he)
  | v => rw [show g = .v from he]; cases f <;> rfl
  | _ => exact key (fits_benign hd (by intro W h; cases h)) (fits_benign he (by intro W h; cases h))
 | l b =>
  cases e with
  | x W =>
   obtain ⟨w, rfl, hw⟩ := he
   rw [show f = .l b from hd]
   show (!memB b w) = true
   rw [memB_false fun hb => h (hw b hb)]; rfl
  | v => rw [show g = .v from he]; cases f <;> rfl
  | _ => exact key (fits_benign hd (by intro W h; cases h)) (fits_benign he (by intro W h; cases h))
 | x W =>
  cases e with
  | v => rw [show g = .v from he]; cases f <;> rfl
  | a => obtain ⟨b, rfl⟩ := he; obtain ⟨w, rfl, _⟩ := hd; rfl
  | r => exact key (nilW_benign h hd) he
  | q S =>
   obtain ⟨w, rfl, hw⟩ := hd
   rcases he with rfl | ⟨b, rfl, hb⟩
   ·
    rfl
   ·
    show (!memB b w) = true
    rw [memB_false fun hm => h b (hw b hm) hb]; rfl
  | l b =>
   obtain ⟨w, rfl, hw⟩ := hd
   rw [show g = .l b from he]
   show (!memB b w) = true
   rw [memB_false fun hb => h (hw b hb)]; rfl
  | x U => exact key (nilW_benign h.1 hd) (nilW_benign h.2 he)
 | q S =>
  cases e with
  | x W =>
   obtain ⟨w, rfl, hw⟩ := he
   rcases hd with rfl | ⟨b, rfl, hb⟩
   ·
    rfl
   ·
    show (!memB b w) = true
    rw [memB_false fun hm => h b (hw b hm) hb]; rfl
  | v => rw [show g = .v from he]; cases f <;> rfl
  | _ => exact key (fits_benign hd (by intro W h; cases h)) (fits_benign he (by intro W h; cases h))
def FsD : List (Nat × Inf) → List (Nat × ID) → Prop
 | [], [] => True
 | (j, g) :: fs, (i, d) :: D => j = i ∧ d.fits g ∧ FsD fs D
 | _, _ => False
def okD (ops : Array Oper) (i : Nat) (d : ID) : List (Nat × ID) → Prop
 | [] => True
 | (j, e) :: D => (ordered (ancOf ops) j i = true ∨ cD e d) ∧ okD ops i d D
theorem allCompat_D {ops : Array Oper} {i : Nat} {d : ID} {f : Inf} (hf : d.fits f) : ∀ {fs : List (Nat × Inf)} {D : List (Nat × ID)}, FsD fs D → okD ops i d D → allCompat (ancOf ops) i f fs = true
 | [], [], _, _ => rfl
 | (j, g) :: fs, (_, e) :: D, ⟨rfl, h2, h3⟩, ⟨h4, h5⟩ => by
  unfold allCompat
  rw [allCompat_D hf h3 h5, Bool.and_true]
  rcases h4 with h4 | h4
  ·
   rw [h4]; rfl
  ·
   rw [compat_of h2 hf h4, Bool.or_true]
 | [], _ :: _, h, _ => absurd h id
 | _ :: _, [], h, _ => absurd h id
section
variable {P : Program} {G : Nat} {K : Known} {sz : Nat} {Q : Ex → Fn → Heap → Prop} {ops : Array Oper} {D : List (Nat × ID)} {i : Nat} {os : List Oper} {k : List Fr} {f : Fn} {H H1 : Heap} {v : Value}
 {d : Tmp} {op : Op} {ty : TypeId} {pos : String} {af : Array Edge}
structure WF2 (P : Program) (G : Nat) (K : Known) (sz : Nat) (ops : Array Oper) (D : List (Nat × ID)) (i : Nat) (os : List Oper) (k : List Fr) (f : Fn) (H : Heap) (Q : Ex → Fn → Heap → Prop) : Prop where
 out : ∀ t fs, lget t = f → FsD fs D → ∃ n e s', runK P G K (n + 1) k (exRegion (runOpsD P G (call P G K n) ops i fs os ⟨t, sz, H⟩)) = some (e, s') ∧ Q e (lget s'.tmps) s'.heap
theorem wf_region {id : Nat} (hr : (regOK ops && P.follows .mixedOrders) = true) (h : WF2 P G K sz ops [] 0 ops.toList k f H Q) : WK P G K sz (.region id ops true) k f H Q := ⟨fun t ht => by
 obtain ⟨n, e, s', h1, h2⟩ := h.out t [] ht trivial
 refine ⟨n, e, s', ?_, h2⟩
 have : exec P G K (n + 1) (.region id ops true) ⟨t, sz, H⟩ = exRegion (runOpsD P G (call P G K n) ops 0 [] ops.toList ⟨t, sz, H⟩) := by
  show exRegion (runRegion P G (call P G K n) ops true ⟨t, sz, H⟩) = _
  unfold runRegion
  simp only [cond_true, hr]
 rw [this]; exact h1⟩
theorem wf_nil (h : WK P G K sz .skip k f H Q) : WF2 P G K sz ops D i [] k f H Q := ⟨fun t fs ht _ => by
 obtain ⟨n, e, s', h1, h2⟩ := h.out t ht
 exact ⟨n, e, s', by unfold runOpsD; exact h1, h2⟩⟩
def Did (ops : Array Oper) (f : Fn) (o : Oper) (n : Nat) (log : List Nat) (d : ID) : Prop := ∀ t sz H, lget t = f → d.fits (infOf ops o ⟨t, sz, H⟩ n log)
theorem mem_below' {n b : Nat} {l : List Nat} (h : b ∈ below n l) : b ∈ l ∧ b < n := by
 induction l with
 | nil => simp [below] at h
 | cons c l ih =>
  unfold below at h
  cases hb : Nat.ble n c with
  | true =>
   rw [hb] at h
   have := ih h
   exact ⟨List.mem_cons_of_mem _ this.1, this.2⟩
  | false =>
   rw [hb] at h
   rcases List.mem_cons.1 h with rfl | h
   ·
    refine ⟨List.mem_cons_self .., ?_⟩
    rcases Nat.lt_or_ge b n with h1 | h1
    ·
     exact h1
    ·
     rw [Nat.ble_eq_true_of_le h1] at hb; cases hb
   ·
    have := ih h
    exact ⟨List.mem_cons_of_mem _ this.1, this.2⟩
theorem did_r {o : Oper} {n : Nat} {log : List Nat} (h : ∀ b, b ∈ log → n ≤ b) : Did ops f o n log .r := fun t sz H _ => infOf_benign (below_nil h)
def otherKind : Op → Bool
 | .load _ _ | .slice _ _ _ _ _ | .call ⟨.builtin .len, _, _⟩ => false
 | o => !valueKind o && !newKind o
theorem did_x {o : Oper} {n : Nat} {log : List Nat} {W : List Nat} (hg : o.guard = none) (hk : otherKind o.op = true) (h : ∀ b, b ∈ log → n ≤ b ∨ b ∈ W) : Did ops f o n log (.x W) := fun t sz H _ => by
 have hv : valueKind o.op = false ∧ newKind o.op = false := by
  unfold otherKind at hk
  split at hk
  ·
   cases hk
  ·
   cases hk
  ·
   cases hk
  ·
   simpa using hk
 refine ⟨below n log, ?_, fun b hb => ?_⟩
 ·
  unfold infOf wantedL
  simp only [hg, Bool.not_true, hv.1, hv.2, Bool.or_self, cond_false]
  split
  ·
   rename_i he; rw [he] at hk; cases hk
  ·
   rename_i he; rw [he] at hk; cases hk
  ·
   rename_i he; rw [he] at hk; cases hk
  ·
   rfl
 ·
  obtain ⟨h1, h2⟩ := mem_below' hb
  rcases h b h1 with h3 | h3
  ·
   omega
  ·
   exact h3
theorem wf_pure {id : ID} (ha : AP P (aevF f) ⟨some d, op, ty, pos, af, none⟩ { H with log := [] } (.val v, { H with log := [] })) (ho : op.operands.toList.all (opnOK G) = true) (hd : Nat.ble (d + 1) sz = true)
  (hid : Did ops f ⟨some d, op, ty, pos, af, none⟩ H.next [] id) (hok : okD ops i id D)
  (h : WF2 P G K sz ops ((i, id) :: D) (i + 1) os k (upd f d v) H Q) : WF2 P G K sz ops D i (⟨some d, op, ty, pos, af, none⟩ :: os) k f H Q := ⟨fun t fs ht hfs => by
 obtain ⟨t', h1, h2⟩ := step_val (P := P) (G := G) (ops := ops) (t := t) (sz := sz) (o := ⟨some d, op, ty, pos, af, none⟩) rfl ho (by rw [ht]; exact ha.eq) hd
 have hi := hid t sz H ht
 obtain ⟨n, e, s', h3, h4⟩ := h.out t' ((i, infOf ops ⟨some d, op, ty, pos, af, none⟩ ⟨t, sz, H⟩ H.next []) :: fs) (by rw [h2, ht]; rfl) ⟨rfl, hi, hfs⟩
 refine ⟨n, e, s', ?_, h4⟩
 unfold runOpsD stepD
 rw [h1]
 simp only [allCompat_D hi hfs hok, cond_true, below, List.nil_append]
 exact h3⟩
theorem inf_guard {t : Tr Value} {v want : Bool} {j : Nat} {dd : Option Tmp} (ht : lget t = f) (hy : yieldF ops f j = some v) (hv : v = want) (sz : Nat) (H : Heap) (n : Nat) (log : List Nat) :
  infOf ops ⟨dd, op, ty, pos, af, some (j, want)⟩ ⟨t, sz, H⟩ n log = infOf ops ⟨dd, op, ty, pos, af, none⟩ ⟨t, sz, H⟩ n log := by
 have h1 : wantedL ops ⟨dd, op, ty, pos, af, some (j, want)⟩ t = true := by rw [wanted_fn ht hy _ rfl, hv]; cases want <;> rfl
 have h2 : wantedL ops ⟨dd, op, ty, pos, af, none⟩ t = true := rfl
 unfold infOf
 simp only [h1, h2]
theorem wf_gt {v want : Bool} {j : Nat} {dd : Option Tmp} (hy : yieldF ops f j = some v) (hv : v = want) (h : WF2 P G K sz ops D i (⟨dd, op, ty, pos, af, none⟩ :: os) k f H Q) : WF2 P G K sz ops D i (⟨dd, op, ty, pos, af, some (j, want)⟩ :: os) k f H Q := ⟨fun t fs ht hfs => by
 obtain ⟨n, e, s', h1, h2⟩ := h.out t fs ht hfs
 refine ⟨n, e, s', ?_, h2⟩
 unfold runOpsD stepD at h1 ⊢
 rw [step_guard ht hy hv]
 cases hq : step P G (call P G K n) ops ⟨dd, op, ty, pos, af, none⟩ ⟨t, sz, { H with log := [] }⟩ with
 | none => rw [hq] at h1; exact h1
 | some s1 =>
  rw [hq] at h1
  simp only [inf_guard ht hy hv]
  exact h1⟩
theorem wf_unwanted {want : Bool} {j : Nat} (hw : ∀ t, lget t = f → wantedL ops ⟨some d, op, ty, pos, af, some (j, want)⟩ t = false) (hd : Nat.ble (d + 1) sz = true)
  (h : WF2 P G K sz ops ((i, .v) :: D) (i + 1) os k (upd f d undef) H Q) : WF2 P G K sz ops D i (⟨some d, op, ty, pos, af, some (j, want)⟩ :: os) k f H Q := ⟨fun t fs ht hfs => by
 obtain ⟨t', h3, h4⟩ := put_fn (s := ⟨t, sz, { H with log := [] }⟩) (d := some d) (v := undef) hd
 have hw1 := hw t ht
 have hi : infOf ops ⟨some d, op, ty, pos, af, some (j, want)⟩ ⟨t, sz, H⟩ H.next [] = .v := by
  unfold infOf
  simp only [hw1, Bool.not_false, Bool.true_or, cond_true]
 obtain ⟨n, e, s', h1, h2⟩ := h.out t' ((i, .v) :: fs) (by rw [h4, ht]; rfl) ⟨rfl, rfl, hfs⟩
 refine ⟨n, e, s', ?_, h2⟩
 have hst : step P G (call P G K n) ops ⟨some d, op, ty, pos, af, some (j, want)⟩ ⟨t, sz, { H with log := [] }⟩ = some ⟨t', sz, { H with log := [] }⟩ := by
  unfold step
  simp only [hw1, cond_false]
  exact h3
 have hc : allCompat (ancOf ops) i .v fs = true := allCompat_of fun j g _ => by cases g <;> simp [compat]
 unfold runOpsD stepD
 rw [hst]
 simp only [hi, hc, cond_true, below, List.nil_append]
 exact h1⟩
theorem wf_gf {v want : Bool} {j : Nat} (hy : yieldF ops f j = some v) (hv : v = !want) (hd : Nat.ble (d + 1) sz = true) (h : WF2 P G K sz ops ((i, .v) :: D) (i + 1) os k (upd f d undef) H Q) :
  WF2 P G K sz ops D i (⟨some d, op, ty, pos, af, some (j, want)⟩ :: os) k f H Q :=
 wf_unwanted (fun t ht => by rw [wanted_fn ht hy _ rfl, hv]; cases want <;> rfl) hd h
theorem wf_gn {want : Bool} {j : Nat} (hy : yieldF ops f j = none) (hd : Nat.ble (d + 1) sz = true) (h : WF2 P G K sz ops ((i, .v) :: D) (i + 1) os k (upd f d undef) H Q) :
  WF2 P G K sz ops D i (⟨some d, op, ty, pos, af, some (j, want)⟩ :: os) k f H Q :=
 wf_unwanted (fun t ht => by
  unfold wantedL
  have : yieldL ops t j = none := by rw [← hy, ← ht]; rfl
  simp only [this]
  cases want <;> rfl) hd h
end
end Go.R
end
noncomputable section
namespace Go.R
theorem w_i64 {n : Int} (h : in64 n) : IntKind.i64.wrap n = n := by
 have e : IntKind.i64.wrap n = if (true && decide (n % (2 ^ 64 : Int) ≥ (2 ^ 63 : Int))) then n % (2 ^ 64 : Int) - (2 ^ 64 : Int) else n % (2 ^ 64 : Int) := rfl
 rw [e]
 obtain ⟨h1, h2⟩ := h
 by_cases hn : 0 ≤ n
 ·
  rw [Int.emod_eq_of_lt hn (by omega)]
  have : decide (n ≥ (2 ^ 63 : Int)) = false := decide_eq_false (by omega)
  rw [this]; rfl
 ·
  have : n % (2 ^ 64 : Int) = n + 2 ^ 64 := by omega
  rw [this]
  have : decide (n + 2 ^ 64 ≥ (2 ^ 63 : Int)) = true := decide_eq_true (by omega)
  rw [this]
  simp only [Bool.and_self, if_true]; omega
theorem w_u64 {n : Int} (h : 0 ≤ n ∧ n < 18446744073709551616) : IntKind.u64.wrap n = n := by
 show n % (2 ^ 64 : Int) = n
 exact Int.emod_eq_of_lt h.1 (by omega)
theorem w_u8 {n : Int} (h : 0 ≤ n ∧ n < 256) : IntKind.u8.wrap n = n := by
 show n % (2 ^ 8 : Int) = n
 exact Int.emod_eq_of_lt h.1 (by omega)
theorem u8_lt (b : UInt8) : (b.toNat : Int) < 256 := by have := UInt8.toNat_lt b; omega
section
variable {α : Type} [Rp α] {P : Program} {ρ : Operand → Value} {d : Option Tmp} {ty : TypeId} {pos : String} {af : Array Edge} {gd : Option (Nat × Bool)} {B : Base} {F : Fz} {H : Heap} {L R : List Fp} {v : Value} {l : List α} {p : Fp}
variable {t yt : TypeId} {x y : Operand} {k : IntKind} {a b c : Int}
theorem kindEq_self (k : IntKind) : kindEq k k = true := by cases k <;> rfl
variable {s u : List UInt8}
theorem ap_idxS {i : Operand} {ki : IntKind} {j : Int} {ch : UInt8} (hx : ρ x = .string ⟨⟨s⟩⟩) (hi : ρ i = .int ki j) (ht : P.underlying t = some .string) (h0 : 0 ≤ j) (hc : s[j.toNat]? = some ch) :
  AP P ρ ⟨d, .index t x i, ty, pos, af, gd⟩ H (.val (.int .u8 ch.toNat), H) := by
 refine ⟨?_⟩
 obtain ⟨m, rfl⟩ := Int.eq_ofNat_of_zero_le h0
 show aIndex P t (ρ x) (ρ i) H = _
 rw [hx, hi]
 show ovl (strAt P t ⟨⟨s⟩⟩ (.int ki (Int.ofNat m))) H = _
 unfold strAt
 rw [ht]
 show ovl (match nth s m with | some b => some (.int .u8 b.toNat) | none => none) H = _
 rw [nth_eq]
 have : s[m]? = some ch := hc
 rw [this]; rfl
theorem ap_eqS (hx : ρ x = .string ⟨⟨s⟩⟩) (hy : ρ y = .string ⟨⟨u⟩⟩) : AP P ρ ⟨d, .binOp .eql t x y yt, ty, pos, af, gd⟩ H (.val (.bool (s == u)), H) := ap_str hx hy rfl
theorem ap_neS (hx : ρ x = .string ⟨⟨s⟩⟩) (hy : ρ y = .string ⟨⟨u⟩⟩) : AP P ρ ⟨d, .binOp .neq t x y yt, ty, pos, af, gd⟩ H (.val (.bool (s != u)), H) := ap_str hx hy rfl
theorem ap_leS (hx : ρ x = .string ⟨⟨s⟩⟩) (hy : ρ y = .string ⟨⟨u⟩⟩) : AP P ρ ⟨d, .binOp .leq t x y yt, ty, pos, af, gd⟩ H (.val (.bool (Op.bytesLess s u || s == u)), H) := ap_str hx hy rfl
theorem ap_ltS (hx : ρ x = .string ⟨⟨s⟩⟩) (hy : ρ y = .string ⟨⟨u⟩⟩) : AP P ρ ⟨d, .binOp .lss t x y yt, ty, pos, af, gd⟩ H (.val (.bool (Op.bytesLess s u)), H) := ap_str hx hy rfl
theorem ap_addS (hx : ρ x = .string ⟨⟨s⟩⟩) (hy : ρ y = .string ⟨⟨u⟩⟩) (hl : s.length + u.length ≤ 1099511627776) : AP P ρ ⟨d, .binOp .add t x y yt, ty, pos, af, gd⟩ H (.val (.string ⟨⟨s ++ u⟩⟩), H) :=
 ap_str hx hy (by
  show (bif Nat.ble (lenL (appL s u)) 1099511627776 then some (Value.string ⟨⟨appL s u⟩⟩) else none) = _
  rw [appL_eq, lenL_eq, List.length_append, Nat.ble_eq_true_of_le hl]; rfl)
def cutAt (n : Nat) (lo hi : Option Value) (i j : Nat) : Prop := bnds n n lo hi = some (i, j)
theorem bnds_of {n k i j : Nat} {lo hi : Option Value} (h1 : optNat n hi = some j) (h2 : optNat 0 lo = some i) (hij : i ≤ j) (hj : j ≤ k) : bnds n k lo hi = some (i, j) := by
 unfold bnds
 simp only [h1, h2, Nat.ble_eq_true_of_le hij, Nat.ble_eq_true_of_le hj, Bool.and_self, cond_true]
theorem optN {d : Nat} {kk : IntKind} {j : Int} (h0 : 0 ≤ j) : optNat d (some (.int kk j)) = some j.toNat := by
 obtain ⟨m, rfl⟩ := Int.eq_ofNat_of_zero_le h0; rfl
theorem ap_slS {lo hi : Option Operand} {i j : Nat} (hx : ρ x = .string ⟨⟨s⟩⟩) (ht : P.underlying t = some .string) (h1 : optNat s.length (hi.map ρ) = some j) (h2 : optNat 0 (lo.map ρ) = some i) (hij : i ≤ j) (hj : j ≤ s.length) :
  AP P ρ ⟨d, .slice t x lo hi none, ty, pos, af, gd⟩ H (.val (.string ⟨⟨(s.drop i).take (j - i)⟩⟩), H) := by
 refine ⟨?_⟩
 show ovl (aSlice P t (ρ x) (lo.map ρ) (hi.map ρ) (Option.map ρ none) H) H = _
 rw [hx]
 unfold aSlice
 simp only [Option.map_none, ht]
 show ovl (match bnds (lenL s) (lenL s) (lo.map ρ) (hi.map ρ) with | some (l, r) => some (.string ⟨⟨takeL (dropL s l) (r - l)⟩⟩) | none => none) H = _
 rw [lenL_eq, bnds_of h1 h2 hij hj]
 simp only [takeL_eq, dropL_eq]; rfl
end
end Go.R
end
noncomputable section
namespace Go.R
theorem agN {f : Fn} : agrees f [] := trivial
theorem agC {f : Fn} {i : Nat} {v : Value} {l : List (Nat × Value)} (h : f i = v) (t : agrees f l) : agrees f ((i, v) :: l) := ⟨h, t⟩
structure Rs where
 v : Value
 H : Heap
 p : Fp
section
variable {P : Program} {G : Nat} {K : Known} {sz : Nat} {Q : Ex → Fn → Heap → Prop} {ops : Array Oper} {D : List (Nat × ID)} {i : Nat} {os : List Oper} {k : List Fr} {f : Fn} {H H1 : Heap} {v : Value}
 {d : Tmp} {op : Op} {ty : TypeId} {pos : String} {af : Array Edge} {Φ : Rs → Prop}
theorem wo_rs (ha : ∃ r : Rs, AP P (aevF f) ⟨some d, op, ty, pos, af, none⟩ H (.val r.v, r.H) ∧ Φ r) (ho : op.operands.toList.all (opnOK G) = true) (hd : Nat.ble (d + 1) sz = true)
  (h : ∀ v H1 p, Φ ⟨v, H1, p⟩ → WO P G K sz ops os k (upd f d v) H1 Q) : WO P G K sz ops (⟨some d, op, ty, pos, af, none⟩ :: os) k f H Q := by
 obtain ⟨⟨v, H1, p⟩, h1, h2⟩ := ha
 exact wo_val h1 ho hd (h v H1 p h2)
theorem wo_rk (ha : ∃ r : Rs, AP P (aevF f) ⟨none, op, ty, pos, af, none⟩ H (.skip, r.H) ∧ Φ r) (ho : op.operands.toList.all (opnOK G) = true)
  (h : ∀ v H1 p, Φ ⟨v, H1, p⟩ → WO P G K sz ops os k f H1 Q) : WO P G K sz ops (⟨none, op, ty, pos, af, none⟩ :: os) k f H Q := by
 obtain ⟨⟨v, H1, p⟩, h1, h2⟩ := ha
 exact wo_skip h1 ho (h v H1 p h2)
end
section
variable {α : Type} [Rp α] {P : Program} {ρ : Operand → Value} {d : Option Tmp} {ty : TypeId} {pos : String} {af : Array Edge} {gd : Option (Nat × Bool)} {B : Base} {F : Fz} {H : Heap} {L R : List Fp} {v : Value} {l : List α} {p : Fp}
def Wr (H H1 : Heap) (W : List Nat) : Prop := ∀ b, b ∈ H1.log → b ∈ H.log ∨ H.next ≤ b ∨ b ∈ W
theorem Wr.nil {H1 : Heap} (h : ∀ b, b ∈ H1.log → b ∈ H.log) : Wr H H1 [] := fun b hb => .inl (h b hb)
theorem rs_new {e : TypeId} {z : List Value} (hs : HS B F H L R) (hz : zeroOf P e = some z) :
  ∃ r : Rs, AP P ρ ⟨d, .alloc e, ty, pos, af, gd⟩ H (.val r.v, r.H) ∧ (∃ b, r.v = .pointer (some ⟨b, 0, none⟩) ∧ HS B F r.H (L ++ [[(b, .cells z none false)]]) R ∧ Wr H r.H []) :=
 ⟨⟨_, _, []⟩, ap_alloc hz, _, rfl, hs.push _, .nil fun b hb => by simpa using hb⟩
theorem rs_rec {t : TypeId} {a0 x0 : Operand} {q n b o : Nat} {w : Value} {cl cs cs' : List Value} (hs : HS B F H L R) (hq : L[q]? = some [(b, .cells cs none false)]) (ha : ρ a0 = .pointer (some ⟨b, o, none⟩)) (hx : ρ x0 = w) (hn : szOf P t = some n) (hc : w.cells.toList = cl) (hl : Nat.beq cl.length n = true)
  (hb : Nat.ble (o + cl.length) cs.length = true) (h1 : allL Value.oneCell' cl = true) (he : splice cs o cl = cs') :
  ∃ r : Rs, AP P ρ ⟨d, .store t a0 x0, ty, pos, af, gd⟩ H (.skip, r.H) ∧ (HS B F r.H (L.set q [(b, .cells cs' none false)]) R ∧ Wr H r.H [b]) := by
 have hcc := hs.callOwn hq
 obtain ⟨H1, g1, g2⟩ := hcc.st (i := 0) rfl hb h1 he
 have h4 := hs.backOwn (M := []) hq rfl (fun b hb => hb) g2
 exact ⟨⟨.bool true, H1, []⟩, ap_st ha hx hn hc hl g1, by simpa using h4, fun b hb => g2.log b hb⟩
end
theorem flat_sub {β : Type} {L' L : List (List β)} (h : List.Sublist L' L) : List.Sublist L'.flatten L.flatten := by
 induction h with
 | slnil => exact List.Sublist.refl _
 | cons a _ ih => rw [List.flatten_cons]; exact ih.trans (List.sublist_append_right _ _)
 | cons_cons a _ ih => rw [List.flatten_cons, List.flatten_cons]; exact (List.Sublist.refl a).append ih
theorem HS.sub {B : Base} {F : Fz} {H : Heap} {L L' R : List Fp} (h : HS B F H L R) (hsub : List.Sublist L' L) : HS B F H L' R :=
 ⟨h.fz, fun p hp b o hb => h.own p (hp.imp (fun x => hsub.subset x) id) b o hb, ((flat_sub (hsub.append (List.Sublist.refl R))).map _).nodup h.nd, h.n0, h.log, fun p hp => h.mine p (hsub.subset hp)⟩
theorem HS.forget {B : Base} {F : Fz} {H : Heap} {L R : List Fp} (h : HS B F H L R) : HS B F H [] R := h.sub (List.nil_sublist _)
section
variable {α : Type} [Rp α] {F : Fz} {B : Base} {H : Heap} {L R : List Fp} {v : Value} {l : List α} {p : Fp}
end
theorem getD_at {β : Type} {l : List β} {j : Nat} {x : β} (h : j < l.length) : l[j]? = some (l.getD j x) := by
 rw [List.getD_eq_getElem?_getD, List.getElem?_eq_getElem h]; rfl
theorem BS : (∀ a b : Bool, ((a && b) = true) = (a = true ∧ b = true)) ∧ (∀ a b : Bool, ((a || b) = true) = (a = true ∨ b = true)) ∧ (∀ a b : Bool, ((a && b) = false) = (a = true → b = false)) ∧ (∀ a b : Bool, ((a || b) = false) = (a = false ∧ b = false)) ∧
  (∀ a : Bool, ((!a) = true) = (a = false)) ∧ (∀ a : Bool, ((!a) = false) = (a = true)) ∧ (∀ (q : Prop) [Decidable q], (decide q = true) = q) ∧ (∀ (q : Prop) [Decidable q], (decide q = false) = ¬ q) ∧
  (∀ a b : Int, ((a == b) = true) = (a = b)) ∧ (∀ a b : Int, ((a == b) = false) = (a ≠ b)) ∧ (∀ a b : Int, ((a != b) = true) = (a ≠ b)) ∧ (∀ a b : Int, ((a != b) = false) = (a = b)) ∧
  (∀ a b : List UInt8, ((a == b) = true) = (a = b)) ∧ (∀ a b : List UInt8, ((a == b) = false) = (a ≠ b)) ∧ (∀ a b : List UInt8, ((a != b) = true) = (a ≠ b)) ∧ (∀ a b : List UInt8, ((a != b) = false) = (a = b)) ∧
  (∀ a b : Bool, ((a == b) = true) = (a = b)) ∧ (∀ a b : Bool, ((a == b) = false) = (a ≠ b)) ∧ (∀ a b : Bool, ((a != b) = true) = (a ≠ b)) ∧ (∀ a b : Bool, ((a != b) = false) = (a = b)) := by
 refine ⟨?_, ?_, ?_, ?_, ?_, ?_, ?_, ?_, ?_, ?_, ?_, ?_, ?_, ?_, ?_, ?_, ?_, ?_, ?_, ?_⟩ <;> intros <;> simp
section
variable {P : Program} {G : Nat} {K : Known} {sz : Nat} {Q : Ex → Fn → Heap → Prop} {ops : Array Oper} {D : List (Nat × ID)} {i : Nat} {os : List Oper} {k : List Fr} {f : Fn} {H H1 : Heap} {d : Tmp} {ty : TypeId} {pos : String} {af : Array Edge} {x : Operand}
theorem wa (v : Value) (hx : aevF f x = v) (ho : (Op.assign x).operands.toList.all (opnOK G) = true) (hd : Nat.ble (d + 1) sz = true) (h : WO P G K sz ops os k (upd f d v) H Q) : WO P G K sz ops (⟨some d, .assign x, ty, pos, af, none⟩ :: os) k f H Q := wo_val (ap_assign hx) ho hd h
end
end Go.R
end
