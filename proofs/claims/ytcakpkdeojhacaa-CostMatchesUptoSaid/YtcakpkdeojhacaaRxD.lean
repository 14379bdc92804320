/-
  Symbolic runs: a region that draws its order.
  No condition beyond those that each statement names.
-/
import Derived.Test.YtcakpkdeojhacaaRxAp
noncomputable section
namespace Go.R

def benign : Inf → Bool
  | .x w => isNilL w
  | _ => true
def vkAt (ops : Array Oper) (j : Nat) : Bool := match ops[j]? with
  | some o => valueKind o.op
  | none => false
def FsOK (ops : Array Oper) (wr : List Nat) (i : Nat) (fs : List (Nat × Inf)) : Prop := ∀ j g, (j, g) ∈ fs → j < i ∧ (benign g = true ∨ j ∈ wr) ∧ (vkAt ops j = true → g = .v)

theorem benign_compat : ∀ {f g : Inf}, benign f = true → benign g = true → compat f g = true
  | .v, _, _, _ => rfl
  | .a b, .v, _, _ => rfl
  | .a b, .a c, _, _ => rfl
  | .a b, .l c, _, _ => rfl
  | .a b, .x w, _, h => by cases w with
    | nil => rfl
    | cons _ _ => cases h
  | .l b, .v, _, _ => rfl
  | .l b, .a c, _, _ => rfl
  | .l b, .l c, _, _ => rfl
  | .l b, .x w, _, h => by cases w with
    | nil => rfl
    | cons _ _ => cases h
  | .x w, .v, _, _ => rfl
  | .x w, .a c, _, _ => rfl
  | .x w, .l c, h, _ => by cases w with
    | nil => rfl
    | cons _ _ => cases h
  | .x w, .x u, h, h' => by
    simp only [benign] at h h'
    simp only [compat, h, h', Bool.and_self]
theorem below_nil {n : Nat} : ∀ {l : List Nat}, (∀ b, b ∈ l → n ≤ b) → below n l = []
  | [], _ => rfl
  | c :: l, h => by
    have h1 : Nat.ble n c = true := Nat.ble_eq_true_of_le (h c (List.mem_cons_self ..))
    unfold below
    rw [h1]
    exact below_nil fun b hb => h b (List.mem_cons_of_mem _ hb)
theorem infOf_benign {ops : Array Oper} {o : Oper} {s : St} {n : Nat} {log : List Nat} (h : below n log = []) : benign (infOf ops o s n log) = true := by
  unfold infOf
  rw [h]
  cases (!wantedL ops o s.tmps || valueKind o.op) with
  | true => rfl
  | false =>
    simp only [cond_false]
    cases newKind o.op with
    | true => rfl
    | false =>
      simp only [cond_false]
      split
      · split <;> rfl
      · split <;> rfl
      · rfl
theorem infOf_value {ops : Array Oper} {o : Oper} {s : St} {n : Nat} {log : List Nat} (h : valueKind o.op = true) : infOf ops o s n log = .v := by
  unfold infOf
  rw [h, Bool.or_true]; rfl
theorem allCompat_of {l : List Nat} {i : Nat} {f : Inf} : ∀ {fs : List (Nat × Inf)}, (∀ j g, (j, g) ∈ fs → (ordered l j i || compat g f) = true) → allCompat l i f fs = true
  | [], _ => rfl
  | (j, g) :: fs, h => by
    unfold allCompat
    rw [h j g (List.mem_cons_self ..), allCompat_of fun j g hm => h j g (List.mem_cons_of_mem _ hm)]; rfl

section
variable {P : Program} {G : Nat} {K : Known} {sz : Nat} {Q : Ex → Fn → Heap → Prop} {ops : Array Oper} {wr : List Nat} {i : Nat} {os : List Oper} {k : List Fr} {f : Fn} {H H1 : Heap} {v : Value}
  {d : Tmp} {op : Op} {ty : TypeId} {pos : String} {af : Array Edge}

structure WD (P : Program) (G : Nat) (K : Known) (sz : Nat) (ops : Array Oper) (wr : List Nat) (i : Nat) (os : List Oper) (k : List Fr) (f : Fn) (H : Heap) (Q : Ex → Fn → Heap → Prop) : Prop where
  out : ∀ t fs, lget t = f → FsOK ops wr i fs → ∃ n e s', runK P G K (n + 1) k (exRegion (runOpsD P G (call P G K n) ops i fs os ⟨t, sz, H⟩)) = some (e, s') ∧ Q e (lget s'.tmps) s'.heap

theorem wd_region {id : Nat} (hr : (regOK ops && P.follows .mixedOrders) = true) (h : WD P G K sz ops [] 0 ops.toList k f H Q) : WK P G K sz (.region id ops true) k f H Q := ⟨fun t ht => by
  obtain ⟨n, e, s', h1, h2⟩ := h.out t [] ht (fun j g hm => by simp at hm)
  refine ⟨n, e, s', ?_, h2⟩
  have : exec P G K (n + 1) (.region id ops true) ⟨t, sz, H⟩ = exRegion (runOpsD P G (call P G K n) ops 0 [] ops.toList ⟨t, sz, H⟩) := by
    show exRegion (runRegion P G (call P G K n) ops true ⟨t, sz, H⟩) = _
    unfold runRegion
    simp only [cond_true, hr]
  rw [this]; exact h1⟩
theorem wd_nil (h : WK P G K sz .skip k f H Q) : WD P G K sz ops wr i [] k f H Q := ⟨fun t fs ht _ => by
  obtain ⟨n, e, s', h1, h2⟩ := h.out t ht
  exact ⟨n, e, s', by unfold runOpsD; exact h1, h2⟩⟩

theorem fs_next {fs : List (Nat × Inf)} {o : Oper} {g : Inf} (h : FsOK ops wr i fs) (hat : ops[i]? = some o) (hb : benign g = true) (hv : valueKind o.op = true → g = .v) : FsOK ops wr (i + 1) ((i, g) :: fs) := by
  intro j x hm
  rcases List.mem_cons.1 hm with e | hm
  · injection e with e1 e2
    subst e1 e2
    exact ⟨by omega, .inl hb, fun hk => hv (by unfold vkAt at hk; rw [hat] at hk; exact hk)⟩
  · obtain ⟨h1, h2, h3⟩ := h j x hm
    exact ⟨by omega, h2, h3⟩
theorem comp_next {fs : List (Nat × Inf)} {g : Inf} (h : FsOK ops wr i fs) (hwr : (wr.all fun j => ordered (ancOf ops) j i) = true) (hb : benign g = true) : allCompat (ancOf ops) i g fs = true := by
  refine allCompat_of fun j x hm => ?_
  rcases (h j x hm).2.1 with h1 | h1
  · rw [benign_compat h1 hb, Bool.or_true]
  · rw [List.all_eq_true.1 hwr j h1]; rfl

theorem wd_val (ha : AP P (aevF f) ⟨some d, op, ty, pos, af, none⟩ { H with log := [] } (.val v, H1)) (hat : ops[i]? = some ⟨some d, op, ty, pos, af, none⟩) (ho : op.operands.toList.all (opnOK G) = true) (hd : Nat.ble (d + 1) sz = true)
    (hlog : ∀ b, b ∈ H1.log → H.next ≤ b) (hwr : (wr.all fun j => ordered (ancOf ops) j i) = true)
    (h : WD P G K sz ops wr (i + 1) os k (upd f d v) { H1 with log := H.log } Q) : WD P G K sz ops wr i (⟨some d, op, ty, pos, af, none⟩ :: os) k f H Q := ⟨fun t fs ht hfs => by
  obtain ⟨t', h1, h2⟩ := step_val (P := P) (G := G) (ops := ops) (t := t) (o := ⟨some d, op, ty, pos, af, none⟩) rfl ho (by rw [ht]; exact ha.eq) hd
  have hbe : below H.next H1.log = [] := below_nil hlog
  have hben := infOf_benign (ops := ops) (o := ⟨some d, op, ty, pos, af, none⟩) (s := ⟨t, sz, H⟩) hbe
  have hval := fun hk => infOf_value (ops := ops) (o := ⟨some d, op, ty, pos, af, none⟩) (s := ⟨t, sz, H⟩) (n := H.next) (log := H1.log) hk
  obtain ⟨n, e, s', h3, h4⟩ := h.out t' _ (by rw [h2, ht]; rfl) (fs_next hfs hat hben hval)
  refine ⟨n, e, s', ?_, h4⟩
  unfold runOpsD stepD
  rw [h1]
  simp only [comp_next hfs hwr hben, cond_true, hbe, List.nil_append]
  exact h3⟩
theorem wd_pure (ha : AP P (aevF f) ⟨some d, op, ty, pos, af, none⟩ { H with log := [] } (.val v, { H with log := [] })) (hat : ops[i]? = some ⟨some d, op, ty, pos, af, none⟩) (ho : op.operands.toList.all (opnOK G) = true) (hd : Nat.ble (d + 1) sz = true)
    (hwr : (wr.all fun j => ordered (ancOf ops) j i) = true)
    (h : WD P G K sz ops wr (i + 1) os k (upd f d v) H Q) : WD P G K sz ops wr i (⟨some d, op, ty, pos, af, none⟩ :: os) k f H Q :=
  wd_val ha hat ho hd (fun b hb => by simp at hb) hwr h
theorem wd_push {o : AObj} (ha : AP P (aevF f) ⟨some d, op, ty, pos, af, none⟩ { H with log := [] } (.val v, Heap.push { H with log := [] } o)) (hat : ops[i]? = some ⟨some d, op, ty, pos, af, none⟩) (ho : op.operands.toList.all (opnOK G) = true) (hd : Nat.ble (d + 1) sz = true)
    (hwr : (wr.all fun j => ordered (ancOf ops) j i) = true)
    (h : WD P G K sz ops wr (i + 1) os k (upd f d v) (H.push o) Q) : WD P G K sz ops wr i (⟨some d, op, ty, pos, af, none⟩ :: os) k f H Q :=
  wd_val ha hat ho hd (fun b hb => by simp at hb) hwr h
theorem wd_call {g : FuncId} {args : List Value} {R : Value → Heap → Prop} (ha : AP P (aevF f) ⟨some d, op, ty, pos, af, none⟩ { H with log := [] } (.enter g args, H1)) (hat : ops[i]? = some ⟨some d, op, ty, pos, af, none⟩) (ho : op.operands.toList.all (opnOK G) = true) (hd : Nat.ble (d + 1) sz = true)
    (hwr : (wr.all fun j => ordered (ancOf ops) j i) = true) (hc : C P G K g args H1 R)
    (h : ∀ v H2, R v H2 → (∀ b, b ∈ H2.log → H.next ≤ b) ∧ WD P G K sz ops wr (i + 1) os k (upd f d v) { H2 with log := H.log } Q) : WD P G K sz ops wr i (⟨some d, op, ty, pos, af, none⟩ :: os) k f H Q := ⟨fun t fs ht hfs => by
  obtain ⟨n1, v, H2, hc1, hr⟩ := hc.out
  obtain ⟨hlog, h0⟩ := h v H2 hr
  obtain ⟨t', h1, h2⟩ := put_fn (s := ⟨t, sz, H2⟩) (d := some d) (v := v) hd
  have hbe : below H.next H2.log = [] := below_nil hlog
  have hben := infOf_benign (ops := ops) (o := ⟨some d, op, ty, pos, af, none⟩) (s := ⟨t, sz, H⟩) hbe
  have hval := fun hk => infOf_value (ops := ops) (o := ⟨some d, op, ty, pos, af, none⟩) (s := ⟨t, sz, H⟩) (n := H.next) (log := H2.log) hk
  obtain ⟨n2, e, s', h3, h4⟩ := h0.out t' _ (by rw [h2, ht]; rfl) (fs_next hfs hat hben hval)
  refine ⟨Nat.max n1 n2, e, s', ?_, h4⟩
  have hst : step P G (call P G K (Nat.max n1 n2)) ops ⟨some d, op, ty, pos, af, none⟩ ⟨t, sz, { H with log := [] }⟩ = some ⟨t', sz, H2⟩ := by
    unfold step wantedL
    simp only [cond_true, ho, aeval_fn, ht, ha.eq, call_mono (Nat.le_max_left n1 n2) _ _ _ _ hc1]
    exact h1
  unfold runOpsD stepD
  rw [hst]
  simp only [comp_next hfs hwr hben, cond_true, hbe, List.nil_append]
  refine runK_mono (Nat.succ_le_succ (Nat.le_max_right n1 n2)) k _ _ (fun x hx => ?_) _ h3
  cases hq : runOpsD P G (call P G K n2) ops (i + 1) ((i, infOf ops ⟨some d, op, ty, pos, af, none⟩ ⟨t, sz, H⟩ H.next H2.log) :: fs) os ⟨t', sz, { H2 with log := H.log }⟩ with
  | none => rw [hq] at hx; cases hx
  | some y =>
    have := runOpsD_mono (call_mono (P := P) (G := G) (K := K) (Nat.le_max_right n1 n2)) _ _ _ _ _ hq
    rw [hq] at hx
    rw [this]; exact hx⟩

theorem relog {H2 : Heap} (h : Keeps { H with log := [] } H2) : (∀ b, b ∈ H2.log → H.next ≤ b) ∧ Keeps H { H2 with log := H.log } := by
  obtain ⟨d, h1, h2⟩ := h.log
  exact ⟨fun b hb => h2 b (by rw [h1, List.append_nil] at hb; exact hb), h.next, h.get, [], rfl, fun b hb => by simp at hb⟩
end
end Go.R
end
