/-
  A region that draws its order: each operation, whenever it goes; the region whole.
  No condition beyond those that each statement names.
-/
import Derived.Test.YtcakpkdeojhacaaRxRegion
namespace Go.R

section
variable {P : Program} {G : Nat}

/-- An operation that reads one block and no more. -/
def ReadsAt (ρ : Operand → Value) (o : Oper) (b : Nat) : Prop :=
  (∃ t a off, o.op = .load t a ∧ ρ a = .pointer (some ⟨b, off, none⟩)) ∨
  (∃ t x lo hi mx off n k, o.op = .slice t x lo hi mx ∧ ρ x = .slice (some ⟨b, off, none⟩) n k)

/-- What one operation did, in the order of the text. -/
structure OpFact (P : Program) (G : Nat) (cf : CallF) (ops : Array Oper) (o : Oper) (s s' : St) (v : Value) (f : Inf) : Prop where
  size : s'.size = s.size
  tm : ∀ t, lget s'.tmps t = if o.dst = some t then v else lget s.tmps t
  dlt : ∀ d, o.dst = some d → d < s.size
  next : s.heap.next ≤ s'.heap.next
  far : ∀ b, s'.heap.next ≤ b → s'.heap.get b = s.heap.get b
  how : (wantedL ops o s.tmps = false ∧ v = undef ∧ f = .v ∧ s'.heap.next = s.heap.next ∧ ∀ b, s'.heap.get b = s.heap.get b) ∨
    (wantedL ops o s.tmps = true ∧ o.op.operands.toList.all (opnOK G) = true ∧ ∃ H1 H2, (∀ b, H1.get b = s.heap.get b) ∧ H1.next = s.heap.next ∧
      evalOp P cf (aeval s.tmps) o H1 = some (v, H2) ∧ (∀ b, s'.heap.get b = H2.get b) ∧ s'.heap.next = H2.next ∧
      ((f = .v ∧ valueKind o.op = true) ∨ (f = .a s.heap.next ∧ newKind o.op = true) ∨
        (∃ b, f = .l b ∧ ReadsAt (aeval s.tmps) o b) ∨
        (∃ w, f = .x w ∧ (∀ b, b ∈ w → b < s.heap.next) ∧ ∀ b, b < s.heap.next → b ∉ w → s'.heap.get b = s.heap.get b)))

theorem mem_below {n b : Nat} : ∀ {l : List Nat}, b ∈ below n l ↔ b ∈ l ∧ b < n
  | [] => by simp [below]
  | c :: l => by
    unfold below
    cases hq : Nat.ble n c with
    | true =>
      have := Nat.le_of_ble_eq_true hq
      simp only [cond_true, List.mem_cons]
      rw [mem_below (l := l)]
      constructor
      · rintro ⟨h1, h2⟩; exact ⟨.inr h1, h2⟩
      · rintro ⟨rfl | h1, h2⟩
        · omega
        · exact ⟨h1, h2⟩
    | false =>
      have hlt : ¬ n ≤ c := fun hh => by rw [Nat.ble_eq_true_of_le hh] at hq; cases hq
      simp only [cond_false, List.mem_cons]
      rw [mem_below (l := l)]
      constructor
      · rintro (rfl | ⟨h1, h2⟩)
        · exact ⟨.inl rfl, by omega⟩
        · exact ⟨.inr h1, h2⟩
      · rintro ⟨rfl | h1, h2⟩
        · exact .inl rfl
        · exact .inr ⟨h1, h2⟩

theorem loadV_spot {P : Program} {H : Heap} {t : TypeId} {p : Addr} {v : Value} (h : H.loadV P t p = some v) : p.spot = none := by
  obtain ⟨b, o, sp⟩ := p
  cases sp with
  | none => rfl
  | some _ =>
    unfold Heap.loadV at h
    split at h
    · split at h
      · simp [Heap.loadN] at h
      · cases h
    · simp [Heap.cellAt] at h
    · cases h

theorem loadV_congr {H H' : Heap} {t : TypeId} {b off : Nat} (h : H.get b = H'.get b) : H.loadV P t ⟨b, off, none⟩ = H'.loadV P t ⟨b, off, none⟩ := by
  unfold Heap.loadV Heap.loadN Heap.cellAt
  simp only [h]

theorem loadV_some {H : Heap} {t : TypeId} {b off : Nat} {v : Value} (h : H.loadV P t ⟨b, off, none⟩ = some v) : ∃ x, H.get b = some x := by
  cases hg : H.get b with
  | some x => exact ⟨x, rfl⟩
  | none =>
    unfold Heap.loadV Heap.loadN Heap.cellAt at h
    simp only [hg] at h
    split at h
    · split at h <;> cases h
    · cases h
    · cases h

theorem aSlice_spot {P : Program} {H : Heap} {t : TypeId} {p : Addr} {n k : Nat} {lo hi mx : Option Value} {v : Value} (h : aSlice P t (.slice (some p) n k) lo hi mx H = some v) : p.spot = none := by
  obtain ⟨b, o, sp⟩ := p
  cases sp with
  | none => rfl
  | some _ =>
    unfold aSlice at h
    split at h
    · cases h
    · split at h <;> simp_all

theorem aSlice_get {P : Program} {H : Heap} {t : TypeId} {b off n k : Nat} {lo hi mx : Option Value} {v : Value} (h : aSlice P t (.slice (some ⟨b, off, none⟩) n k) lo hi mx H = some v) :
    ∃ obj, H.get b = some obj ∧ ∀ H2 : Heap, H2.get b = some obj → aSlice P t (.slice (some ⟨b, off, none⟩) n k) lo hi mx H2 = some v := by
  cases hg : H.get b with
  | some obj =>
    refine ⟨obj, rfl, fun H2 h2 => ?_⟩
    rw [← h]
    unfold aSlice
    cases mx with
    | some _ => rfl
    | none =>
      cases P.underlying t with
      | none => rfl
      | some d => cases d <;> first | rfl | simp only [h2, hg]
  | none =>
    exfalso
    unfold aSlice at h
    split at h
    · cases h
    · split at h <;> simp_all

theorem reads_spec {P : Program} {ρ : Operand → Value} {o : Oper} {b : Nat} {H H' : Heap} {r : AN} (hr : ReadsAt ρ o b) (h : aop P ρ o H = some (r, H')) :
    ∃ v obj, r = .val v ∧ H' = H ∧ H.get b = some obj ∧ ∀ H2 : Heap, H2.get b = some obj → aop P ρ o H2 = some (.val v, H2) := by
  rcases hr with ⟨t, a, off, hop, ha⟩ | ⟨t, x, lo, hi, mx, off, n, k, hop, hx⟩
  · have haop : ∀ H, aop P ρ o H = opLoad P t (ρ a) H := fun H => by unfold aop; rw [hop]
    rw [haop, ha] at h
    unfold opLoad at h
    simp only at h
    obtain ⟨rfl, v, hv, rfl⟩ := ovl_inv h
    obtain ⟨obj, hobj⟩ := loadV_some hv
    refine ⟨v, obj, rfl, rfl, hobj, fun H2 h2 => ?_⟩
    rw [haop, ha]
    unfold opLoad
    simp only
    rw [loadV_congr (H' := H') (by rw [h2, hobj]), hv]
    rfl
  · have haop : ∀ H, aop P ρ o H = ovl (aSlice P t (ρ x) (lo.map ρ) (hi.map ρ) (mx.map ρ) H) H := fun H => by unfold aop; rw [hop]
    rw [haop, hx] at h
    obtain ⟨rfl, v, hv, rfl⟩ := ovl_inv h
    obtain ⟨obj, hobj, hall⟩ := aSlice_get hv
    refine ⟨v, obj, rfl, rfl, hobj, fun H2 h2 => ?_⟩
    rw [haop, hx, hall H2 h2]
    rfl

theorem reads_sound {P : Program} {μ : Emb} {ρ ρ' : Operand → Value} {o : Oper} {b : Nat} {H : Heap} {w : World} {v : Value} (hr : ReadsAt ρ o b) (hρ : ∀ x ∈ o.op.operands, VRel μ (ρ x) (ρ' x)) (hw : WRel μ H w)
    (h : aop P ρ o H = some (.val v, H)) : ∃ v', (execOp ρ' o).run P w = .ok (.value v') w ∧ VRel μ v v' := by
  rcases hr with ⟨t, a, off, hop, ha⟩ | ⟨t, x, lo, hi, mx, off, n, k, hop, hx⟩
  · have haop : ∀ H, aop P ρ o H = opLoad P t (ρ a) H := fun H => by unfold aop; rw [hop]
    rw [haop, ha] at h
    unfold opLoad at h
    simp only at h
    obtain ⟨_, v1, hv, h1⟩ := ovl_inv h
    injection h1 with h1; subst h1
    have hxa : VRel μ (ρ a) (ρ' a) := hρ a (by rw [hop]; simp [Op.operands])
    rw [ha] at hxa
    obtain ⟨l, hμ, hax⟩ := hxa.ptr_inv
    obtain ⟨v', hrun, hrr⟩ := loadV_sound (P := P) hw hμ hv
    refine ⟨v', ?_, hrr⟩
    obtain ⟨dst, op, type, pos, after, guard⟩ := o
    simp only at hop
    subst hop
    simp only [execOp, hax, Instr.loadAt, Instr.sureAddr, Sem.run_bind, Sem.run_pure, Result.andThen_ok, hrun]
  · have haop : ∀ H, aop P ρ o H = ovl (aSlice P t (ρ x) (lo.map ρ) (hi.map ρ) (mx.map ρ) H) H := fun H => by unfold aop; rw [hop]
    rw [haop] at h
    obtain ⟨dst, op, type, pos, after, guard⟩ := o
    simp only at hop
    subst hop
    obtain ⟨a1, a2⟩ := opt_rel (μ := μ) (ρ := ρ) (ρ' := ρ') (x := lo) fun y hy => hρ y (by subst hy; simp [Op.operands])
    obtain ⟨b1, b2⟩ := opt_rel (μ := μ) (ρ := ρ) (ρ' := ρ') (x := hi) fun y hy => hρ y (by subst hy; simp [Op.operands])
    obtain ⟨_, c2⟩ := opt_rel (μ := μ) (ρ := ρ) (ρ' := ρ') (x := mx) fun y hy => hρ y (by subst hy; simp [Op.operands])
    obtain ⟨v1, v', h1, _, hrun, hrr⟩ := slice_run (P := P) hw (hρ x (by simp [Op.operands])) a1 a2 b1 b2 c2 h
    injection h1 with h1; subst h1
    refine ⟨v', ?_, hrr⟩
    simp only [execOp, Sem.run_bind, hrun, Result.andThen_ok, Sem.run_pure]

theorem reads_loc {μ : Emb} {ρ ρ' : Operand → Value} {o : Oper} {b : Nat} (hr : ReadsAt ρ o b) (hρ : ∀ x ∈ o.op.operands, VRel μ (ρ x) (ρ' x)) : ∃ l, μ b = some l := by
  rcases hr with ⟨t, a, off, hop, ha⟩ | ⟨t, x, lo, hi, mx, off, n, k, hop, hx⟩
  · have hxa : VRel μ (ρ a) (ρ' a) := hρ a (by rw [hop]; simp [Op.operands])
    rw [ha] at hxa
    obtain ⟨l, hμ, _⟩ := hxa.ptr_inv
    exact ⟨l, hμ⟩
  · have hxa : VRel μ (ρ x) (ρ' x) := hρ x (by rw [hop]; simp [Op.operands])
    rw [hx] at hxa
    obtain ⟨l, hμ, _⟩ := hxa.slice_inv
    exact ⟨l, hμ⟩

theorem stepD_fact {cf : CallF} (hcf : CallOK P G cf) {ops : Array Oper} {o : Oper} {s s' : St} {f : Inf} (hw : WF s.heap) (h : stepD P G cf ops o s = some (s', f)) :
    ∃ v, OpFact P G cf ops o s s' v f := by
  unfold stepD at h
  split at h
  case h_2 => cases h
  rename_i t hst
  simp only [Option.some.injEq, Prod.mk.injEq] at h
  obtain ⟨rfl, rfl⟩ := h
  have hw0 : WF { s.heap with log := [] } := hw
  have ext := step_ext hcf (s := { s with heap := { s.heap with log := [] } }) hw0 hst
  rw [step_eq] at hst
  cases hq : wantedL ops o s.tmps with
  | false =>
    rw [hq] at hst
    simp only [cond_false] at hst
    obtain ⟨h1, h2, h3⟩ := put_inv hst
    refine ⟨undef, h1, ?_, ?_, by rw [h2]; exact Nat.le_refl _, fun b _ => by rw [h2]; rfl, .inl ⟨hq, rfl, by unfold infOf; rw [hq]; rfl, by rw [h2], fun b => by rw [h2]; rfl⟩⟩
    · intro k
      rcases h3 with ⟨h4, h5⟩ | ⟨d, h4, hd, h5⟩
      · simp [h4, h5]
      · rw [h4]; simp only [h5, lget_lset, Option.some.injEq]
    · intro d hd
      rcases h3 with ⟨h4, _⟩ | ⟨d', h4, hd', _⟩
      · rw [h4] at hd; cases hd
      · rw [h4] at hd; injection hd with hd; subst hd; exact hd'
  | true =>
    rw [hq] at hst
    cases hq2 : o.op.operands.toList.all (opnOK G) with
    | false => rw [hq2] at hst; cases hst
    | true =>
      rw [hq2] at hst
      simp only [cond_true] at hst
      split at hst
      case h_2 => cases hst
      rename_i v H2 he
      obtain ⟨h1, h2, h3⟩ := put_inv hst
      simp only at h2
      have hext : Ext { s.heap with log := [] } H2 := evalOp_ext hcf hw0 he
      refine ⟨v, h1, ?_, ?_, by simp only [h2]; exact hext.next, fun b hb => by simp only [h2] at hb ⊢; exact hext.far b hb, .inr ⟨hq, hq2, { s.heap with log := [] }, H2, fun _ => rfl, rfl, he, fun b => by simp only [h2]; rfl, by simp only [h2], ?_⟩⟩
      · intro k
        rcases h3 with ⟨h4, h5⟩ | ⟨d, h4, hd, h5⟩
        · simp [h4, h5]
        · rw [h4]; simp only [h5, lget_lset, Option.some.injEq]
      · intro d hd
        rcases h3 with ⟨h4, _⟩ | ⟨d', h4, hd', _⟩
        · rw [h4] at hd; cases hd
        · rw [h4] at hd; injection hd with hd; subst hd; exact hd'
      · -- which kind
        have hx : (∃ w, Inf.x (below s.heap.next t.heap.log) = .x w ∧ (∀ b, b ∈ w → b < s.heap.next) ∧ ∀ b, b < s.heap.next → b ∉ w → t.heap.get b = s.heap.get b) := by
          refine ⟨_, rfl, fun b hb => (mem_below.1 hb).2, fun b hb hn => ?_⟩
          obtain ⟨d, hd, hsame⟩ := hext.log
          rw [h2]
          refine hsame b hb fun hm => hn (mem_below.2 ⟨?_, hb⟩)
          rw [h2, hd, List.append_nil]; exact hm
        unfold infOf
        rw [hq]
        cases hv : valueKind o.op with
        | true => exact .inl ⟨rfl, rfl⟩
        | false =>
          simp only [Bool.not_true, Bool.or_false, cond_false]
          cases hnk : newKind o.op with
          | true => exact .inr (.inl ⟨rfl, rfl⟩)
          | false =>
            simp only [cond_false]
            split
            · rename_i ty a hop
              split
              · rename_i p hp
                have hsp : p.spot = none := by
                  unfold evalOp at he
                  have haop : aop P (aeval s.tmps) o { s.heap with log := [] } = opLoad P ty (aeval s.tmps a) { s.heap with log := [] } := by unfold aop; rw [hop]
                  rw [haop, hp] at he
                  unfold opLoad at he
                  simp only at he
                  cases hl : Heap.loadV P { s.heap with log := [] } ty p with
                  | none => rw [hl] at he; simp [ovl] at he
                  | some u => exact loadV_spot hl
                obtain ⟨b, off, sp⟩ := p
                simp only at hsp; subst hsp
                exact .inr (.inr (.inl ⟨b, rfl, .inl ⟨ty, a, off, hop, hp⟩⟩))
              · exact .inr (.inr (.inr hx))
            · rename_i ty x lo hi mx hop
              split
              · rename_i p n k hp
                have hsp : p.spot = none := by
                  unfold evalOp at he
                  have haop : aop P (aeval s.tmps) o { s.heap with log := [] } = ovl (aSlice P ty (aeval s.tmps x) (lo.map (aeval s.tmps)) (hi.map (aeval s.tmps)) (mx.map (aeval s.tmps)) { s.heap with log := [] }) { s.heap with log := [] } := by unfold aop; rw [hop]
                  rw [haop, hp] at he
                  cases hl : aSlice P ty (.slice (some p) n k) (lo.map (aeval s.tmps)) (hi.map (aeval s.tmps)) (mx.map (aeval s.tmps)) { s.heap with log := [] } with
                  | none => rw [hl] at he; simp [ovl] at he
                  | some u => exact aSlice_spot hl
                obtain ⟨b, off, sp⟩ := p
                simp only at hsp; subst hsp
                exact .inr (.inr (.inl ⟨b, rfl, .inr ⟨ty, x, lo, hi, mx, off, n, k, hop, hp⟩⟩))
              · exact .inr (.inr (.inr hx))
            · exact .inr (.inr (.inr hx))

theorem plain_val {ρ : Operand → Value} {o : Oper} {H H' : Heap} {r : AN} (h : plainOp P ρ o H = some (r, H')) : H' = H ∧ ∃ v, r = .val v := by
  unfold plainOp at h
  cases hq : o.op.operands.toList.all fun x => noA1 (ρ x) with
  | false => rw [hq] at h; cases h
  | true =>
    rw [hq] at h
    simp only [cond_true] at h
    split at h
    · rename_i v hv
      cases hn : noA2 v with
      | false => rw [hn] at h; cases h
      | true =>
        rw [hn] at h; simp only [cond_true, Option.some.injEq, Prod.mk.injEq] at h
        exact ⟨h.2.symm, v, h.1.symm⟩
    · cases h
theorem lift_val {s : Sem Value} {H H' : Heap} {r : AN} (h : lift P s H = some (r, H')) : H' = H ∧ ∃ v, r = .val v := by
  obtain ⟨h1, v, h2, _⟩ := lift_spec h; exact ⟨h1, v, h2⟩
theorem ovl_val {x : Option Value} {H H' : Heap} {r : AN} (h : ovl x H = some (r, H')) : H' = H ∧ ∃ v, r = .val v := by
  obtain ⟨h1, v, _, h2⟩ := ovl_inv h; exact ⟨h1, v, h2⟩
theorem some_val {v : Value} {H H' : Heap} {r : AN} (h : some (AN.val v, H) = some (r, H')) : H' = H ∧ ∃ v, r = .val v := by
  simp only [Option.some.injEq, Prod.mk.injEq] at h; exact ⟨h.2.symm, v, h.1.symm⟩
theorem aop_value {ρ : Operand → Value} {o : Oper} {H H' : Heap} {r : AN} (hk : valueKind o.op = true) (h : aop P ρ o H = some (r, H')) : H' = H ∧ ∃ v, r = .val v := by
  obtain ⟨dst, op, type, pos, after, guard⟩ := o
  cases op <;> simp only [valueKind, Bool.false_eq_true] at hk
  case move x => exact some_val (v := ρ x) h
  case assign x => exact some_val (v := ρ x) h
  case pick c a b =>
    have h' : opPick ρ c a b H = some (r, H') := h
    unfold opPick at h'
    split at h'
    · exact some_val h'
    · cases h'
  case build t parts =>
    have h' : opBuild P t (parts.map fun p => (p.1, ρ p.2)) H = some (r, H') := h
    unfold opBuild at h'
    split at h'
    · exact lift_val h'
    · cases h'
  case nilCheck x =>
    have h' : opNil (ρ x) H = some (r, H') := h
    unfold opNil at h'
    split at h'
    · exact some_val h'
    · exact some_val h'
    · cases h'
  case binOp op t x y yt =>
    have h' : aBin P ρ ⟨dst, .binOp op t x y yt, type, pos, after, guard⟩ op t (ρ x) y H = some (r, H') := h
    unfold aBin at h'
    split at h'
    · unfold binInt at h'; split at h'
      · exact ovl_val h'
      · cases h'
    · unfold binStr at h'; split at h'
      · exact ovl_val h'
      · cases h'
    · unfold binRest at h'; split at h'
      · exact plain_val h'
      · exact plain_val h'
      · obtain ⟨h1, b, _, hc⟩ := nilBin_inv h'
        rcases hc with ⟨_, h2⟩ | ⟨_, h2⟩
        · exact ⟨h1, _, h2⟩
        · exact ⟨h1, _, h2⟩
  case unOp op t x =>
    have h' : aUn P ρ ⟨dst, .unOp op t x, type, pos, after, guard⟩ op (ρ x) H = some (r, H') := h
    unfold aUn at h'
    split at h'
    · split at h'
      · exact some_val h'
      · cases h'
    · exact plain_val h'
  case makeFunc fn first captured => exact some_val (v := .func fn (first.map ρ) (captured.map ρ)) h
  case fieldAddr s x f =>
    have h' : ovl (aField P s (ρ x) f) H = some (r, H') := h
    exact ovl_val h'
  case field t x f =>
    have h' : ovl (aFieldV P t (ρ x) f) H = some (r, H') := h
    exact ovl_val h'
  case indexAddr t x i =>
    have h' : ovl (aIndexAddr P t (ρ x) (ρ i)) H = some (r, H') := h
    exact ovl_val h'
  case index t x i =>
    have h' : aIndex P t (ρ x) (ρ i) H = some (r, H') := h
    unfold aIndex at h'
    split at h'
    · exact ovl_val h'
    · exact lift_val h'
  case extract x i =>
    have h' : ovl (aExtract (ρ x) i) H = some (r, H') := h
    exact ovl_val h'
theorem value_heap {ρ : Operand → Value} {o : Oper} {H H' : Heap} {r : AN} (hk : valueKind o.op = true) (h : aop P ρ o H = some (r, H')) : H' = H := by
  have := aop_value hk h
  exact this.1
theorem value_val {ρ : Operand → Value} {o : Oper} {H H' : Heap} {r : AN} (hk : valueKind o.op = true) (h : aop P ρ o H = some (r, H')) : ∃ v, r = .val v := (aop_value hk h).2

theorem new_indep {ρ : Operand → Value} {o : Oper} {H H' : Heap} {r : AN} (hk : newKind o.op = true) (h : aop P ρ o H = some (r, H')) :
    ∃ v obj, r = .val v ∧ H' = H.push obj ∧ ∀ H2 : Heap, H2.next = H.next → aop P ρ o H2 = some (.val v, H2.push obj) := by
  obtain ⟨dst, op, type, pos, after, guard⟩ := o
  cases op <;> simp only [newKind, Bool.false_eq_true, reduceCtorEq] at hk
  case alloc e =>
    have h' : opAlloc P e H = some (r, H') := h
    unfold opAlloc at h'
    split at h'
    · rename_i z hz
      simp only [Option.some.injEq, Prod.mk.injEq] at h'
      obtain ⟨rfl, rfl⟩ := h'
      refine ⟨_, _, rfl, rfl, fun H2 hn => ?_⟩
      show opAlloc P e H2 = _
      unfold opAlloc
      rw [hz, hn]; rfl
    · cases h'
  case box e x =>
    have h' : some (AN.val (ptrTo H.next), newCells H (ρ x).cells.toList none) = some (r, H') := h
    simp only [Option.some.injEq, Prod.mk.injEq] at h'
    obtain ⟨rfl, rfl⟩ := h'
    refine ⟨_, _, rfl, rfl, fun H2 hn => ?_⟩
    show some (AN.val (ptrTo H2.next), newCells H2 (ρ x).cells.toList none) = _
    rw [hn]; rfl
  case buildSlice t n parts =>
    have h' : opBuildSlice P t n (mapL (fun p => (p.1, ρ p.2)) parts.toList) H = some (r, H') := h
    unfold opBuildSlice at h'
    split at h'
    · rename_i sz z hz
      cases hq : Nat.ble (n * sz) 16777216 with
      | false => rw [hq] at h'; cases h'
      | true =>
        rw [hq] at h'
        simp only [cond_true] at h'
        split at h'
        · rename_i cells hc
          simp only [Option.some.injEq, Prod.mk.injEq] at h'
          obtain ⟨rfl, rfl⟩ := h'
          refine ⟨_, _, rfl, rfl, fun H2 hn => ?_⟩
          show opBuildSlice P t n (mapL (fun p => (p.1, ρ p.2)) parts.toList) H2 = _
          unfold opBuildSlice
          rw [hz]
          simp only [hq, cond_true, hc, hn]
          rfl
        · cases h'
    · cases h'
  case makeMap t rsv =>
    cases rsv with
    | some _ => simp [newKind] at hk
    | none =>
      have h' : some (AN.val (.map (some H.next)), H.push (.tab [])) = some (r, H') := h
      simp only [Option.some.injEq, Prod.mk.injEq] at h'
      obtain ⟨rfl, rfl⟩ := h'
      refine ⟨_, _, rfl, rfl, fun H2 hn => ?_⟩
      show some (AN.val (.map (some H2.next)), H2.push (.tab [])) = _
      rw [hn]

/-- The heap without a block, at a count. -/
def bare (n : Nat) : Heap := { tr := .nil, next := n, log := [] }
theorem bare_get (n b : Nat) : (bare n).get b = none := rfl
theorem bare_rel (μ : Emb) (n : Nat) (w : World) : WRel μ (bare n) w :=
  ⟨(fun b l o _ h => by rw [bare_get] at h; cases h), (fun b1 b2 l1 l2 o1 o2 _ _ _ h => by rw [bare_get] at h; cases h)⟩

/-- What the region knows. -/
structure Trace (P : Program) (G : Nat) (cf : CallF) (ops : Array Oper) (st : Nat → St) (vl : Nat → Value) (nf : Nat → Inf) : Prop where
  fact : ∀ k o, ops[k]? = some o → OpFact P G cf ops o (st k) (st (k + 1)) (vl k) (nf k)
  past : ∀ k, ops.size ≤ k → st (k + 1) = st k
  comp : ∀ j k, j < k → k < ops.size → ordered (ancOf ops) j k = true ∨ compat (nf j) (nf k) = true
  reg : RegFacts ops
  wf : ∀ k, WF (st k).heap

section
variable {cf : CallF} {ops : Array Oper} {st : Nat → St} {vl : Nat → Value} {nf : Nat → Inf}
theorem Trace.mono (T : Trace P G cf ops st vl nf) (k : Nat) : (st k).heap.next ≤ (st (k + 1)).heap.next := by
  rcases Nat.lt_or_ge k ops.size with h | h
  · exact (T.fact k ops[k] (Array.getElem?_eq_getElem h)).next
  · rw [T.past k h]; exact Nat.le_refl _
theorem Trace.monoL (T : Trace P G cf ops st vl nf) {j k : Nat} (h : j ≤ k) : (st j).heap.next ≤ (st k).heap.next := by
  induction h with
  | refl => exact Nat.le_refl _
  | step _ ih => exact Nat.le_trans ih (T.mono _)
theorem Trace.sizeL (T : Trace P G cf ops st vl nf) (k : Nat) : (st k).size = (st 0).size := by
  induction k with
  | zero => rfl
  | succ k ih =>
    rcases Nat.lt_or_ge k ops.size with h | h
    · rw [(T.fact k ops[k] (Array.getElem?_eq_getElem h)).size, ih]
    · rw [T.past k h, ih]
theorem Trace.tm (T : Trace P G cf ops st vl nf) (k t : Nat) : lget (st (k + 1)).tmps t = if dstOf ops k = some t then vl k else lget (st k).tmps t := by
  unfold dstOf
  rcases Nat.lt_or_ge k ops.size with h | h
  · have ho := Array.getElem?_eq_getElem h
    rw [(T.fact k ops[k] ho).tm t, ho]; rfl
  · rw [T.past k h, Array.getElem?_eq_none h]; simp
/-- A block that an operation changed: it made it, or it is among those that it wrote. -/
theorem Trace.chg (T : Trace P G cf ops st vl nf) {k b : Nat} (h : chg st k b) :
    k < ops.size ∧ ((st k).heap.next ≤ b ∧ b < (st (k + 1)).heap.next ∨ ∃ w, nf k = .x w ∧ b ∈ w ∧ b < (st k).heap.next) := by
  have hk : k < ops.size := by
    rcases Nat.lt_or_ge k ops.size with hk | hk
    · exact hk
    · exfalso; unfold R.chg at h; rw [T.past k hk] at h; exact h rfl
  refine ⟨hk, ?_⟩
  have F := T.fact k ops[k] (Array.getElem?_eq_getElem hk)
  have hlt : b < (st (k + 1)).heap.next := by
    rcases Nat.lt_or_ge b (st (k + 1)).heap.next with h1 | h1
    · exact h1
    · exact absurd (F.far b h1) h
  rcases Nat.lt_or_ge b (st k).heap.next with hb | hb
  · right
    rcases F.how with ⟨_, _, _, _, hs⟩ | ⟨_, _, H1, H2, hg1, hn1, he, hg2, hn2, hkind⟩
    · exact absurd (hs b) h
    · rcases hkind with ⟨hf, hv⟩ | ⟨hf, hv⟩ | ⟨b', hf, hrd⟩ | ⟨w, hf, hwl, hsame⟩
      · -- a value operation changes nothing
        exfalso
        unfold evalOp at he
        split at he
        · rename_i u h1 haop
          simp only [Option.some.injEq, Prod.mk.injEq] at he
          have := (value_heap hv haop)
          rw [← he.2, this] at hg2
          exact h (by rw [hg2 b, hg1 b])
        · rename_i h1 haop
          have := (value_val hv haop)
          obtain ⟨_, hx⟩ := this; cases hx
        · rename_i f args h1 haop
          obtain ⟨_, hx⟩ := value_val hv haop; cases hx
        · cases he
      · exfalso
        unfold evalOp at he
        split at he
        · rename_i u h1 haop
          simp only [Option.some.injEq, Prod.mk.injEq] at he
          obtain ⟨_, obj, _, hpush, _⟩ := new_indep hv haop
          rw [← he.2, hpush] at hg2
          exact h (by rw [hg2 b, Heap.get_push_ne _ _ (by omega), hg1 b])
        · rename_i h1 haop
          obtain ⟨_, _, hx, _⟩ := new_indep hv haop; cases hx
        · rename_i f args h1 haop
          obtain ⟨_, _, hx, _⟩ := new_indep hv haop; cases hx
        · cases he
      · exfalso
        unfold evalOp at he
        split at he
        · rename_i u h1 haop
          simp only [Option.some.injEq, Prod.mk.injEq] at he
          obtain ⟨_, _, _, hH, _, _⟩ := reads_spec hrd haop
          rw [← he.2, hH] at hg2
          exact h (by rw [hg2 b, hg1 b])
        · rename_i h1 haop
          obtain ⟨_, _, hx, _⟩ := reads_spec hrd haop; cases hx
        · rename_i f args h1 haop
          obtain ⟨_, _, hx, _⟩ := reads_spec hrd haop; cases hx
        · cases he
      · rcases Classical.em (b ∈ w) with hm | hm
        · exact ⟨w, hf, hm, hb⟩
        · exact absurd (hsame b hb hm) h
  · exact .inl ⟨hb, hlt⟩
end
end
end Go.R
