/-
  Symbolic runs by computation: a row of operations, and a region (own work).
  No condition beyond those that each statement names.
-/
import Derived.Test.YtcakpkdeojhacaaRxV2
noncomputable section
namespace Go.R

/-- The slots as they are, and as they are noted. -/
structure SS.Rel (S : SS) (f fr : Fn) : Prop where
  sl : ∀ t c v, lk S.m t = some (c, v) → fr t = (bif act S.G c then v else undef)
  no : ∀ t, lk S.m t = none → fr t = f t
  gs : ∀ s g, gl S.G s = some g → (∃ c, lk S.m s = some (c, .bool g)) ∨ (lk S.m s = none ∧ f s = .bool g)
  ks : ∀ t c v, lk S.m t = some (c, v) → ∀ s w, (s, w) ∈ c → ∃ g, gl S.G s = some g

theorem gl_add {G : List (Nat × Bool)} {d s : Nat} {g r : Bool} (h : gl G s = some r) : gl (addG G d g) s = some r := by
  unfold addG
  split
  · exact h
  · rename_i hn
    show (bif Nat.beq d s then some g else gl G s) = _
    cases hb : Nat.beq d s with
    | true => have := Nat.eq_of_beq_eq_true hb; subst this; rw [hn] at h; cases h
    | false => exact h
theorem gl_add_same {G : List (Nat × Bool)} {d : Nat} {g : Bool} (h : ∀ r, gl G d = some r → r = g) : gl (addG G d g) d = some g := by
  unfold addG
  split
  · rename_i r hr; rw [hr, h r hr]
  · show (bif Nat.beq d d then some g else gl G d) = _
    rw [Nat.beq_refl]; rfl
theorem gl_add_inv {G : List (Nat × Bool)} {d s : Nat} {g r : Bool} (h : gl (addG G d g) s = some r) : gl G s = some r ∨ (s = d ∧ r = g) := by
  unfold addG at h
  split at h
  · exact .inl h
  · have h' : (bif Nat.beq d s then some g else gl G s) = some r := h
    cases hb : Nat.beq d s with
    | true => rw [hb] at h'; exact .inr ⟨(Nat.eq_of_beq_eq_true hb).symm, (Option.some.inj h').symm⟩
    | false => rw [hb] at h'; exact .inl h'
theorem act_add {G : List (Nat × Bool)} {d : Nat} {g : Bool} : ∀ {c : Ch}, (∀ s w, (s, w) ∈ c → ∃ r, gl G s = some r) → act (addG G d g) c = act G c
  | [], _ => rfl
  | (s, w) :: c, h => by
    obtain ⟨r, hr⟩ := h s w (by simp)
    show ((match gl (addG G d g) s with | some g => bq g w | none => false) && act (addG G d g) c) = ((match gl G s with | some g => bq g w | none => false) && act G c)
    rw [gl_add hr, hr, act_add fun s w hm => h s w (by simp [hm])]
theorem act_mem {G : List (Nat × Bool)} : ∀ {c : Ch} {s : Nat} {w : Bool}, act G c = true → memC s w c = true → gl G s = some w
  | (s', w') :: c, s, w, h, hm => by
    simp only [act, Bool.and_eq_true] at h
    simp only [memC, Bool.or_eq_true, Bool.and_eq_true] at hm
    rcases hm with ⟨h1, h2⟩ | hm
    · have e1 := Nat.eq_of_beq_eq_true h1
      have e2 := bq_eq h2
      subst e1 e2
      have h3 := h.1
      split at h3
      · rename_i g hg; rw [hg, bq_eq h3]
      · cases h3
    · exact act_mem h.2 hm
  | [], s, w, _, hm => by cases hm
theorem act_sub {G : List (Nat × Bool)} : ∀ {a c : Ch}, act G c = true → subC a c = true → act G a = true
  | [], _, _, _ => rfl
  | (s, w) :: a, c, h, hs => by
    simp only [subC, Bool.and_eq_true] at hs
    have h1 := act_mem h hs.1
    simp only [act, h1, act_sub h hs.2, Bool.and_true]
    cases w <;> rfl
theorem impl_act {G : List (Nat × Bool)} {p : Prop} : ∀ {c : Ch}, act G c = true → impl G c p → p
  | [], _, h => h
  | (s, w) :: c, ha, h => by
    simp only [act, Bool.and_eq_true] at ha
    obtain ⟨h1, h2⟩ := ha
    unfold impl at h
    split at h1
    · rename_i g hg
      rw [hg] at h
      exact impl_act h2 (h (bq_eq h1))
    · cases h1

section
variable {P : Program} {G0 : Nat} {K : Known} {sz : Nat} {Q : Ex → Fn → Heap → Prop} {ops : Array Oper} {os : List Oper} {k : List Fr} {f fr : Fn} {H : Heap} {S S' : SS}

theorem SS.Rel.add (h : S.Rel f fr) {d : Nat} {g : Bool} (hd : (∃ c, lk S.m d = some (c, .bool g)) ∨ (lk S.m d = none ∧ f d = .bool g)) : SS.Rel ⟨S.m, addG S.G d g⟩ f fr := by
  refine ⟨fun t c v ht => ?_, h.no, fun s r hr => ?_, fun t c v ht s w hm => ?_⟩
  · rw [h.sl t c v ht]
    show _ = bif act (addG S.G d g) c then v else undef
    rw [act_add (h.ks t c v ht)]
  · rcases gl_add_inv hr with h1 | ⟨rfl, rfl⟩
    · exact h.gs s r h1
    · exact hd
  · obtain ⟨r, hr⟩ := h.ks t c v ht s w hm
    exact ⟨r, gl_add hr⟩
theorem SS.Rel.same (h : S.Rel f fr) {d : Nat} {g : Bool} (hd : (∃ c, lk S.m d = some (c, .bool g)) ∨ (lk S.m d = none ∧ f d = .bool g)) : ∀ r, gl S.G d = some r → r = g := by
  intro r hr
  rcases h.gs d r hr with ⟨c, h1⟩ | ⟨h1, h2⟩ <;> rcases hd with ⟨c', h3⟩ | ⟨h3, h4⟩
  · rw [h1] at h3; simp only [Option.some.injEq, Prod.mk.injEq, Value.bool.injEq] at h3; exact h3.2
  · rw [h1] at h3; cases h3
  · rw [h1] at h3; cases h3
  · rw [h2] at h4; simpa using h4
/-- What a guard says. -/
structure GOK (ops : Array Oper) (f fr : Fn) (S : SS) (g : Option (Nat × Bool)) (c : Ch) (G1 : List (Nat × Bool)) : Prop where
  rel : SS.Rel ⟨S.m, G1⟩ f fr
  ks : ∀ s w, (s, w) ∈ c → ∃ g, gl G1 s = some g
  on : act G1 c = true → match g with
    | none => True
    | some (j, w) => yieldF ops fr j = some w
  off : act G1 c = false → match g with
    | none => False
    | some (j, w) => yieldF ops fr j = none ∨ yieldF ops fr j = some (!w)
theorem chain_ok (hr : S.Rel f fr) {g : Option (Nat × Bool)} {c : Ch} {G1 : List (Nat × Bool)} (h : chainOf ops f S g = some (c, G1)) : GOK ops f fr S g c G1 := by
  unfold chainOf at h
  split at h
  · simp only [Option.some.injEq, Prod.mk.injEq] at h
    obtain ⟨rfl, rfl⟩ := h
    exact ⟨hr, fun s w hm => by simp at hm, fun _ => trivial, fun h => by cases h⟩
  · rename_i j w
    split at h
    · rename_i d hd
      have key : ∀ (c0 : Ch) (γ : Bool), ((∃ c, lk S.m d = some (c, .bool γ)) ∨ (lk S.m d = none ∧ f d = .bool γ)) → (∀ s w, (s, w) ∈ c0 → ∃ g, gl S.G s = some g) → (fr d = bif act S.G c0 then .bool γ else undef) → GOK ops f fr S (some (j, w)) ((d, w) :: c0) (addG S.G d γ) := by
        intro c0 γ hdd hks hfr
        have hG := gl_add_same (G := S.G) (d := d) (g := γ) (hr.same hdd)
        have ha : act (addG S.G d γ) ((d, w) :: c0) = (bq γ w && act S.G c0) := by
          show ((match gl (addG S.G d γ) d with | some g => bq g w | none => false) && act (addG S.G d γ) c0) = _
          rw [hG, act_add hks]
        have hy : ∀ v, fr d = v → yieldF ops fr j = match v with | .bool b => some b | _ => none := by
          intro v hv
          unfold yieldF
          rw [hd]
          show (match fr d with | .bool b => some b | _ => none) = _
          rw [hv]
        refine ⟨hr.add hdd, fun s w' hm => ?_, fun hon => ?_, fun hoff => ?_⟩
        · rcases List.mem_cons.1 hm with e | hm
          · injection e with e1 e2; subst e1; exact ⟨γ, hG⟩
          · obtain ⟨r, hr'⟩ := hks s w' hm; exact ⟨r, gl_add hr'⟩
        · rw [ha, Bool.and_eq_true] at hon
          rw [hon.2] at hfr
          show yieldF ops fr j = some w
          rw [hy _ hfr, bq_eq hon.1]; rfl
        · rw [ha] at hoff
          show yieldF ops fr j = none ∨ yieldF ops fr j = some (!w)
          cases hc : act S.G c0 with
          | false => rw [hc] at hfr; left; rw [hy _ hfr]; rfl
          | true =>
            rw [hc] at hfr hoff
            right
            rw [hy _ hfr]
            cases γ <;> cases w <;> first | rfl | cases hoff
      split at h
      · rename_i c0 γ hl
        simp only [Option.some.injEq, Prod.mk.injEq] at h
        obtain ⟨rfl, rfl⟩ := h
        exact key c0 γ (.inl ⟨_, hl⟩) (hr.ks d c0 _ hl) (hr.sl d c0 _ hl)
      · cases h
      · rename_i hl
        split at h
        · rename_i γ hf
          simp only [Option.some.injEq, Prod.mk.injEq] at h
          obtain ⟨rfl, rfl⟩ := h
          exact key [] γ (.inr ⟨hl, hf⟩) (fun s w hm => by simp at hm) (by rw [hr.no d hl, hf]; rfl)
        · cases h
    · cases h
theorem rel_put {m : List (Nat × Ch × Value)} {G : List (Nat × Bool)} {q q' : Option Prop} {c : Ch} {d : Nat} {v : Value} (hr : SS.Rel ⟨m, G⟩ f fr) (hk : ∀ s w, (s, w) ∈ c → ∃ g, gl G s = some g) (h : putS q c G m d v = some (S', q')) :
    SS.Rel S' f (upd fr d (bif act G c then v else undef)) ∧ (holds q' → act G c = true → holds q) := by
  unfold putS at h
  split at h
  · cases h
  · rename_i hd
    simp only [Option.some.injEq, Prod.mk.injEq] at h
    obtain ⟨rfl, rfl⟩ := h
    refine ⟨⟨fun t c' v' ht => ?_, fun t ht => ?_, fun s g hg => ?_, fun t c' v' ht s w hm => ?_⟩, fun hq ha => ?_⟩
    · have ht' : (bif Nat.beq d t then some (c, v) else lk m t) = some (c', v') := ht
      unfold upd
      cases hb : Nat.beq d t with
      | true =>
        rw [hb] at ht'
        simp only [cond_true, Option.some.injEq, Prod.mk.injEq] at ht'
        obtain ⟨rfl, rfl⟩ := ht'
        rfl
      | false => rw [hb] at ht'; exact hr.sl t c' v' ht'
    · have ht' : (bif Nat.beq d t then some (c, v) else lk m t) = none := ht
      unfold upd
      cases hb : Nat.beq d t with
      | true => rw [hb] at ht'; cases ht'
      | false => rw [hb] at ht'; exact hr.no t ht'
    · have hne : Nat.beq d s = false := by
        cases hb : Nat.beq d s with
        | false => rfl
        | true => have := Nat.eq_of_beq_eq_true hb; subst this; rw [hd] at hg; cases hg
      have e : lk ((d, c, v) :: m) s = lk m s := by
        show (bif Nat.beq d s then some (c, v) else lk m s) = _
        rw [hne]; rfl
      rcases hr.gs s g hg with ⟨c0, h0⟩ | h0
      · exact .inl ⟨c0, e.trans h0⟩
      · exact .inr ⟨e.trans h0.1, h0.2⟩
    · have ht' : (bif Nat.beq d t then some (c, v) else lk m t) = some (c', v') := ht
      cases hb : Nat.beq d t with
      | true =>
        rw [hb] at ht'
        simp only [cond_true, Option.some.injEq, Prod.mk.injEq] at ht'
        obtain ⟨rfl, rfl⟩ := ht'
        exact hk s w hm
      | false => rw [hb] at ht'; exact hr.ks t c' v' ht' s w hm
    · cases q with
      | none => trivial
      | some p => exact impl_act ha hq
theorem rd_ok (hr : S.Rel f fr) {c : Ch} (ha : act S.G c = true) {x : Operand} (hx : S.can c x = true) : aevF fr x = S.rd f x := by
  cases x with
  | tmp t =>
    show fr t = match lk S.m t with | some x => x.2 | none => f t
    have hx' : (match lk S.m t with | some x => subC x.1 c | none => true) = true := hx
    cases hl : lk S.m t with
    | none => exact hr.no t hl
    | some y =>
      obtain ⟨c', v⟩ := y
      rw [hl] at hx'
      rw [hr.sl t c' v hl, act_sub ha hx']; rfl
  | _ => rfl
/-- One operation. -/
theorem stepS_ok {o : Oper} {q : Option Prop} {hi : Hint} (hr : S.Rel f fr) (h : stepS P G0 K H sz ops f S hi o = some (S', q)) (hq : holds q) :
    ∃ d c G1 v, o.dst = some d ∧ Nat.ble (d + 1) sz = true ∧ o.op.operands.toList.all (opnOK G0) = true ∧ chainOf ops f S o.guard = some (c, G1) ∧
      (act G1 c = true → PRes P G0 K (aevF fr) ⟨some d, o.op, o.type, o.pos, o.after, none⟩ H v) ∧ SS.Rel S' f (upd fr d (bif act G1 c then v else undef)) := by
  unfold stepS at h
  split at h
  · cases h
  · rename_i d hd
    cases hb : (Nat.ble (d + 1) sz && o.op.operands.toList.all (opnOK G0)) with
    | false => rw [hb] at h; cases h
    | true =>
      rw [hb] at h
      simp only [cond_true] at h
      rw [Bool.and_eq_true] at hb
      split at h
      · cases h
      · rename_i c G1 hc
        have hg := chain_ok hr hc
        split at h
        · rename_i s a b hop
          split at h
          · rename_i cc γ hl
            cases hb2 : (subC cc c && (S.can ((s, true) :: c) a && S.can ((s, false) :: c) b)) with
            | false => rw [hb2] at h; cases h
            | true =>
              rw [hb2] at h
              simp only [cond_true] at h
              simp only [Bool.and_eq_true] at hb2
              split at h
              · rename_i v hv
                have hds : (∃ c, lk S.m s = some (c, .bool γ)) ∨ (lk S.m s = none ∧ f s = .bool γ) := .inl ⟨_, hl⟩
                have hrel := SS.Rel.add (S := ⟨S.m, G1⟩) hg.rel (d := s) (g := γ) hds
                have hG := gl_add_same (G := G1) (d := s) (g := γ) (hg.rel.same hds)
                have hks2 : ∀ s' w, (s', w) ∈ c → ∃ g, gl (addG G1 s γ) s' = some g := fun s' w hm => by
                  obtain ⟨r, hr'⟩ := hg.ks s' w hm; exact ⟨r, gl_add hr'⟩
                have hact : act (addG G1 s γ) c = act G1 c := act_add hg.ks
                obtain ⟨h1, _⟩ := rel_put hrel hks2 h
                rw [hact] at h1
                refine ⟨d, c, G1, v, hd, hb.1, hb.2, hc, fun ha => ?_, h1⟩
                refine .val ⟨?_⟩
                rw [hop]
                show opPick (aevF fr) (.tmp s) a b H = _
                have e0 : aevF fr (.tmp s) = .bool γ := by
                  have := hg.rel.sl s cc _ hl
                  rw [act_sub ha hb2.1] at this
                  exact this
                unfold opPick
                rw [e0]
                show some (AN.val (bif γ then aevF fr a else aevF fr b), H) = _
                rw [ppick_ok hv]
                have hcan : ∀ (w : Bool) (x : Operand), γ = w → S.can ((s, w) :: c) x = true → aevF fr x = S.rd f x := by
                  intro w x hw hx
                  have hr2 : SS.Rel ⟨S.m, addG G1 s γ⟩ f fr := hrel
                  refine rd_ok (S := ⟨S.m, addG G1 s γ⟩) hr2 (c := (s, w) :: c) ?_ hx
                  show ((match gl (addG G1 s γ) s with | some g => bq g w | none => false) && act (addG G1 s γ) c) = true
                  rw [hG, hact, ha, hw]; cases w <;> rfl
                cases γ with
                | true => rw [cond_true, cond_true, hcan true a rfl hb2.2.1]
                | false => rw [cond_false, cond_false, hcan false b rfl hb2.2.2]
              · cases h
          · cases h
        · cases hb2 : o.op.operands.toList.all (S.can c) with
          | false => rw [hb2] at h; cases h
          | true =>
            rw [hb2] at h
            simp only [cond_true] at h
            split at h
            · rename_i v q0 hp
              obtain ⟨h1, h2⟩ := rel_put hg.rel hg.ks h
              refine ⟨d, c, G1, v, hd, hb.1, hb.2, hc, fun ha => ?_, h1⟩
              refine pop_ok (fun x hx => ?_) hp (h2 hq ha)
              have := List.all_eq_true.1 hb2 x hx
              exact rd_ok (S := ⟨S.m, G1⟩) hg.rel ha this
            · cases h

theorem wo_do {d : Nat} {o : Oper} {c : Ch} {G1 : List (Nat × Bool)} {v : Value} (hd : o.dst = some d) (hb : Nat.ble (d + 1) sz = true) (ho : o.op.operands.toList.all (opnOK G0) = true) (hg : GOK ops f fr S o.guard c G1)
    (hp : act G1 c = true → PRes P G0 K (aevF fr) ⟨some d, o.op, o.type, o.pos, o.after, none⟩ H v) (h : WO P G0 K sz ops os k (upd fr d (bif act G1 c then v else undef)) H Q) : WO P G0 K sz ops (o :: os) k fr H Q := by
  obtain ⟨dst, op, ty, pos, af, gd⟩ := o
  simp only at hd ho hg hp
  subst hd
  cases ha : act G1 c with
  | true =>
    rw [ha] at h
    have base : WO P G0 K sz ops (⟨some d, op, ty, pos, af, none⟩ :: os) k fr H Q := by
      cases hp ha with
      | val hv => exact wo_val hv ho hb h
      | call g args he _ hc => exact wo_callG he ho hb hc (by rintro v' H' ⟨rfl, rfl⟩; exact h)
    cases gd with
    | none => exact base
    | some jw =>
      obtain ⟨j, w⟩ := jw
      exact wo_gt (hg.on ha) rfl base
  | false =>
    rw [ha] at h
    have := hg.off ha
    cases gd with
    | none => exact absurd this id
    | some jw =>
      obtain ⟨j, w⟩ := jw
      rcases this with h1 | h1
      · exact wo_gn h1 hb h
      · exact wo_gf h1 rfl hb h
def bnD : ID → Bool
  | .x [] => true
  | .x _ => false
  | _ => true
theorem okD_r {i : Nat} : ∀ {D : List (Nat × ID)}, D.all (fun e => bnD e.2) = true → okD ops i .r D
  | [], _ => trivial
  | (j, e) :: D, h => by
    simp only [List.all_cons, Bool.and_eq_true] at h
    refine ⟨.inr ?_, okD_r h.2⟩
    cases e with
    | x W =>
      cases W with
      | nil => trivial
      | cons a b => exact absurd h.1 (by simp [bnD])
    | _ => trivial
theorem okD_x {i : Nat} : ∀ {D : List (Nat × ID)}, D.all (fun e => bnD e.2) = true → okD ops i (.x []) D
  | [], _ => trivial
  | (j, e) :: D, h => by
    simp only [List.all_cons, Bool.and_eq_true] at h
    refine ⟨.inr ?_, okD_x h.2⟩
    cases e with
    | x W =>
      cases W with
      | nil => exact ⟨trivial, trivial⟩
      | cons a b => exact absurd h.1 (by simp [bnD])
    | l b => exact List.not_mem_nil
    | _ => trivial
theorem wf_weak {D : List (Nat × ID)} {i j : Nat} {e : ID} (he : ∀ g, e.fits g → benign g = true) (h : WF2 P G0 K sz ops ((j, .r) :: D) i os k f H Q) : WF2 P G0 K sz ops ((j, e) :: D) i os k f H Q := ⟨fun t fs ht hfs => by
  refine h.out t fs ht ?_
  cases fs with
  | nil => exact absurd hfs id
  | cons x fs =>
    obtain ⟨a, g⟩ := x
    obtain ⟨h1, h2, h3⟩ := hfs
    exact ⟨h1, he g h2, h3⟩⟩
theorem wf_callx {d : Tmp} {op : Op} {ty : TypeId} {pos : String} {af : Array Edge} {D : List (Nat × ID)} {i : Nat} {v : Value} {g : FuncId} {args : List Value} (ha : AP P (aevF f) ⟨some d, op, ty, pos, af, none⟩ { H with log := [] } (.enter g args, { H with log := [] })) (ho : op.operands.toList.all (opnOK G0) = true) (hd : Nat.ble (d + 1) sz = true) (hk : otherKind op = true)
    (hc : C P G0 K g args { H with log := [] } fun v' H' => v' = v ∧ H' = { H with log := [] }) (hok : okD ops i (.x []) D)
    (h : WF2 P G0 K sz ops ((i, .x []) :: D) (i + 1) os k (upd f d v) H Q) : WF2 P G0 K sz ops D i (⟨some d, op, ty, pos, af, none⟩ :: os) k f H Q := ⟨fun t fs ht hfs => by
  obtain ⟨n1, v', H2, hc1, rfl, rfl⟩ := hc.out
  obtain ⟨t', h1, h2⟩ := put_fn (s := ⟨t, sz, { H with log := [] }⟩) (d := some d) (v := v') hd
  have hi := did_x (ops := ops) (f := f) (o := ⟨some d, op, ty, pos, af, none⟩) (n := H.next) (log := []) (W := []) rfl hk (fun b hb => by simp at hb) t sz H ht
  obtain ⟨n2, e, s', h3, h4⟩ := h.out t' ((i, infOf ops ⟨some d, op, ty, pos, af, none⟩ ⟨t, sz, H⟩ H.next []) :: fs) (by rw [h2, ht]; rfl) ⟨rfl, hi, hfs⟩
  refine ⟨Nat.max n1 n2, e, s', ?_, h4⟩
  have hst : step P G0 (call P G0 K (Nat.max n1 n2)) ops ⟨some d, op, ty, pos, af, none⟩ ⟨t, sz, { H with log := [] }⟩ = some ⟨t', sz, { H with log := [] }⟩ := by
    unfold step wantedL
    simp only [cond_true, ho, aeval_fn, ht, ha.eq, call_mono (Nat.le_max_left n1 n2) _ _ _ _ hc1]
    exact h1
  unfold runOpsD stepD
  rw [hst]
  simp only [allCompat_D hi hfs hok, cond_true, below, List.nil_append]
  refine runK_mono (Nat.succ_le_succ (Nat.le_max_right n1 n2)) k _ _ (fun x hx => ?_) _ h3
  cases hq : runOpsD P G0 (call P G0 K n2) ops (i + 1) ((i, infOf ops ⟨some d, op, ty, pos, af, none⟩ ⟨t, sz, H⟩ H.next []) :: fs) os ⟨t', sz, H⟩ with
  | none => rw [hq] at hx; cases hx
  | some y =>
    have := runOpsD_mono (call_mono (P := P) (G := G0) (K := K) (Nat.le_max_right n1 n2)) _ _ _ _ _ hq
    rw [hq] at hx
    show exRegion (runOpsD P G0 (call P G0 K (Nat.max n1 n2)) ops (i + 1) _ os ⟨t', sz, H⟩) = _
    rw [this]; exact hx⟩
theorem wf_do {D : List (Nat × ID)} {i d : Nat} {o : Oper} {c : Ch} {G1 : List (Nat × Bool)} {v : Value} (hD : D.all (fun e => bnD e.2) = true) (hd : o.dst = some d) (hb : Nat.ble (d + 1) sz = true) (ho : o.op.operands.toList.all (opnOK G0) = true) (hg : GOK ops f fr S o.guard c G1)
    (hp : act G1 c = true → PRes P G0 K (aevF fr) ⟨some d, o.op, o.type, o.pos, o.after, none⟩ { H with log := [] } v) (h : WF2 P G0 K sz ops ((i, .r) :: D) (i + 1) os k (upd fr d (bif act G1 c then v else undef)) H Q) : WF2 P G0 K sz ops D i (o :: os) k fr H Q := by
  obtain ⟨dst, op, ty, pos, af, gd⟩ := o
  simp only at hd ho hg hp
  subst hd
  cases ha : act G1 c with
  | true =>
    rw [ha] at h
    have base : WF2 P G0 K sz ops D i (⟨some d, op, ty, pos, af, none⟩ :: os) k fr H Q := by
      cases hp ha with
      | val hv => exact wf_pure (id := .r) hv ho hb (did_r fun b hb => by simp at hb) (okD_r hD) h
      | call g args he hk hc =>
        exact wf_callx he ho hb hk hc (okD_x hD) (wf_weak (fun g hg => by obtain ⟨w, rfl, hw⟩ := hg; cases w with
          | nil => rfl
          | cons a b => exact absurd (hw a (by simp)) List.not_mem_nil) h)
    cases gd with
    | none => exact base
    | some jw =>
      obtain ⟨j, w⟩ := jw
      exact wf_gt (hg.on ha) rfl base
  | false =>
    rw [ha] at h
    have := hg.off ha
    cases gd with
    | none => exact absurd this id
    | some jw =>
      obtain ⟨j, w⟩ := jw
      have h' := wf_weak (e := .v) (fun g hg => by rw [show g = .v from hg]; rfl) h
      rcases this with h1 | h1
      · exact wf_gn h1 hb h'
      · exact wf_gf h1 rfl hb h'

/-! Rows. -/
theorem holds_and {q : Option Prop} {p : Prop} (h : andO q p) : holds q ∧ p := by
  cases q with
  | none => exact ⟨trivial, h⟩
  | some q => exact h
/-- Before: what is left of a row behind its first n operations. -/
theorem wo_row {hs : List (Nat × Hint)} : ∀ {a : List Oper} {i : Nat} {S S' : SS} {p : Prop} {fr : Fn}, rgL P G0 K H sz ops f hs i a S = some (S', p) → p → S.Rel f fr →
    (∀ fr', S'.Rel f fr' → WO P G0 K sz ops os k fr' H Q) → WO P G0 K sz ops (a ++ os) k fr H Q
  | [], i, S, S', p, fr, h, _, hr, hk => by
    simp only [rgL, Option.some.injEq, Prod.mk.injEq] at h
    obtain ⟨rfl, _⟩ := h
    exact hk fr hr
  | o :: a, i, S, S', p, fr, h, hp, hr, hk => by
    unfold rgL at h
    split at h
    · cases h
    · rename_i S1 q h1
      split at h
      · cases h
      · rename_i S2 p2 h2
        simp only [Option.some.injEq, Prod.mk.injEq] at h
        obtain ⟨rfl, rfl⟩ := h
        obtain ⟨hq, hp2⟩ := holds_and hp
        obtain ⟨d, c, G1, v, e1, e2, e3, e4, e5, e6⟩ := stepS_ok hr h1 hq
        exact wo_do e1 e2 e3 (chain_ok hr e4) e5 (wo_row h2 hp2 e6 hk)
def rs (i : Nat) : List Oper → List (Nat × ID) → List (Nat × ID)
  | [], D => D
  | _ :: a, D => rs (i + 1) a ((i, .r) :: D)
theorem rs_all {a : List Oper} : ∀ {i : Nat} {D : List (Nat × ID)}, D.all (fun e => bnD e.2) = true → (rs i a D).all (fun e => bnD e.2) = true := by
  induction a with
  | nil => intro i D h; exact h
  | cons o a ih => intro i D h; exact ih (by simp only [List.all_cons, h, Bool.and_true]; rfl)
theorem wf_row {hs : List (Nat × Hint)} : ∀ {a : List Oper} {i : Nat} {D : List (Nat × ID)} {S S' : SS} {p : Prop} {fr : Fn}, D.all (fun e => bnD e.2) = true → rgL P G0 K { H with log := [] } sz ops f hs i a S = some (S', p) → p → S.Rel f fr →
    (∀ fr', S'.Rel f fr' → WF2 P G0 K sz ops (rs i a D) (i + a.length) os k fr' H Q) → WF2 P G0 K sz ops D i (a ++ os) k fr H Q
  | [], i, D, S, S', p, fr, _, h, _, hr, hk => by
    simp only [rgL, Option.some.injEq, Prod.mk.injEq] at h
    obtain ⟨rfl, _⟩ := h
    exact hk fr hr
  | o :: a, i, D, S, S', p, fr, hD, h, hp, hr, hk => by
    unfold rgL at h
    split at h
    · cases h
    · rename_i S1 q h1
      split at h
      · cases h
      · rename_i S2 p2 h2
        simp only [Option.some.injEq, Prod.mk.injEq] at h
        obtain ⟨rfl, rfl⟩ := h
        obtain ⟨hq, hp2⟩ := holds_and hp
        obtain ⟨d, c, G1, v, e1, e2, e3, e4, e5, e6⟩ := stepS_ok hr h1 hq
        refine wf_do hD e1 e2 e3 (chain_ok hr e4) e5 (wf_row (by simp only [List.all_cons, hD, Bool.and_true]; rfl) h2 hp2 e6 fun fr' hr' => ?_)
        have := hk fr' hr'
        rw [List.length_cons, show i + (a.length + 1) = i + 1 + a.length by omega] at this
        exact this
theorem fins_ok {m : List (Nat × Ch × Value)} {G : List (Nat × Bool)} (hr : SS.Rel ⟨m, G⟩ f fr) : ∀ {ds : List Nat} {l : List (Nat × Value)}, fins m ds = some l → agrees fr l
  | [], l, h => by
    simp only [fins, Option.some.injEq] at h; subst h; trivial
  | d :: ds, l, h => by
    unfold fins at h
    split at h
    · rename_i v l' h1 h2
      simp only [Option.some.injEq] at h; subst h
      exact ⟨by have := hr.sl d [] v h1; exact this, fins_ok hr h2⟩
    · cases h
theorem rel_leaves {m : List (Nat × Ch × Value)} {G : List (Nat × Bool)} (hr : SS.Rel ⟨m, G⟩ f fr) {lo hi : Nat} {ex : List Nat} (h : m.all (fun e => inR lo hi ex e.1) = true) : Leaves lo hi ex f fr := ⟨fun j hj => by
  refine hr.no j ?_
  have key : ∀ (m : List (Nat × Ch × Value)), m.all (fun e => inR lo hi ex e.1) = true → lk m j = none := by
    intro m
    induction m with
    | nil => intro _; rfl
    | cons e m ih =>
      obtain ⟨s, x⟩ := e
      intro hm
      simp only [List.all_cons, Bool.and_eq_true] at hm
      show (bif Nat.beq s j then some x else lk m j) = none
      cases hb : Nat.beq s j with
      | true => have := Nat.eq_of_beq_eq_true hb; subst this; rw [hj] at hm; cases hm.1
      | false => exact ih hm.2
  exact key m h⟩
theorem rel0 : SS.Rel ⟨[], []⟩ f f := ⟨fun t c v h => (by cases h), fun _ _ => rfl, fun s g h => (by cases h), fun t c v h => (by cases h)⟩
theorem top_ok {i : Nat} {a : List Oper} {hs : List (Nat × Hint)} {lo hi : Nat} {ex ds : List Nat} {l : List (Nat × Value)} {p : Prop} (h : rgTop P G0 K H sz ops f i a hs lo hi ex ds = some (l, p)) :
    ∃ S, rgL P G0 K H sz ops f hs i a ⟨[], []⟩ = some (S, p) ∧ ∀ fr, S.Rel f fr → ∃ g, fr = updL (hav lo hi ex g f) l := by
  unfold rgTop at h
  split at h
  · cases h
  · rename_i S p' h1
    cases hb : S.m.all (fun e => inR lo hi ex e.1) with
    | false => rw [hb] at h; cases h
    | true =>
      rw [hb] at h
      simp only [cond_true] at h
      split at h
      · rename_i l' h2
        simp only [Option.some.injEq, Prod.mk.injEq] at h
        obtain ⟨rfl, rfl⟩ := h
        refine ⟨S, h1, fun fr hr => ⟨fr, ?_⟩⟩
        rw [← (rel_leaves hr hb).eq, updL_self (fins_ok hr h2)]
      · cases h
/-- A region, all of it. -/
theorem wk_rg {id : Nat} (hs : List (Nat × Hint)) (lo hi : Nat) (ex : List Nat) {ds : List Nat} {l : List (Nat × Value)} {p : Prop} (h : rgTop P G0 K H sz ops f 0 ops.toList hs lo hi ex ds = some (l, p)) (hp : p)
    (hk : ∀ g, WK P G0 K sz .skip k (updL (hav lo hi ex g f) l) H Q) : WK P G0 K sz (.region id ops false) k f H Q := by
  obtain ⟨S, h1, h2⟩ := top_ok h
  refine wk_region ?_
  have := wo_row (os := []) (k := k) (Q := Q) h1 hp rel0 (fun fr hr => by obtain ⟨g, rfl⟩ := h2 fr hr; exact wo_nil (hk g))
  rwa [List.append_nil] at this
theorem wk_rgD {id : Nat} (hr : (regOK ops && P.follows .mixedOrders) = true) (hs : List (Nat × Hint)) (lo hi : Nat) (ex : List Nat) {ds : List Nat} {l : List (Nat × Value)} {p : Prop} (h : rgTop P G0 K { H with log := [] } sz ops f 0 ops.toList hs lo hi ex ds = some (l, p)) (hp : p)
    (hk : ∀ g, WK P G0 K sz .skip k (updL (hav lo hi ex g f) l) H Q) : WK P G0 K sz (.region id ops true) k f H Q := by
  obtain ⟨S, h1, h2⟩ := top_ok h
  refine wf_region hr ?_
  have := wf_row (os := []) (k := k) (Q := Q) (D := []) rfl h1 hp rel0 (fun fr hr => by obtain ⟨g, rfl⟩ := h2 fr hr; exact wf_nil (hk g))
  rwa [List.append_nil] at this
/-- The first n operations of what is left. -/
theorem wo_rg (n i : Nat) (hs : List (Nat × Hint)) (lo hi : Nat) (ex : List Nat) {os : List Oper} {ds : List Nat} {l : List (Nat × Value)} {p : Prop} (h : rgTop P G0 K H sz ops f i (takeL os n) hs lo hi ex ds = some (l, p)) (hp : p)
    (hk : ∀ g, WO P G0 K sz ops (dropL os n) k (updL (hav lo hi ex g f) l) H Q) : WO P G0 K sz ops os k f H Q := by
  obtain ⟨S, h1, h2⟩ := top_ok h
  have := wo_row (os := dropL os n) (k := k) (Q := Q) h1 hp rel0 (fun fr hr => by obtain ⟨g, rfl⟩ := h2 fr hr; exact hk g)
  rwa [takeL_eq, dropL_eq, List.take_append_drop] at this
theorem wf_rg (n : Nat) (hs : List (Nat × Hint)) (lo hi : Nat) (ex : List Nat) {D : List (Nat × ID)} {i : Nat} {os : List Oper} {ds : List Nat} {l : List (Nat × Value)} {p : Prop} (hD : D.all (fun e => bnD e.2) = true) (h : rgTop P G0 K { H with log := [] } sz ops f i (takeL os n) hs lo hi ex ds = some (l, p)) (hp : p)
    (hk : ∀ g, WF2 P G0 K sz ops (rs i (takeL os n) D) (i + (takeL os n).length) (dropL os n) k (updL (hav lo hi ex g f) l) H Q) : WF2 P G0 K sz ops D i os k f H Q := by
  obtain ⟨S, h1, h2⟩ := top_ok h
  have := wf_row (os := dropL os n) (k := k) (Q := Q) hD h1 hp rel0 (fun fr hr => by obtain ⟨g, rfl⟩ := h2 fr hr; exact hk g)
  rwa [takeL_eq, dropL_eq, List.take_append_drop] at this
end
end Go.R
end
