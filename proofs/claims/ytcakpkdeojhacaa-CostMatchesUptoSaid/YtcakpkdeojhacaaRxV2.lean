/-
  Symbolic runs by computation: each operation's reading is sound (own work).
  No condition beyond those that each statement names.
-/
import Derived.Test.YtcakpkdeojhacaaRxV
noncomputable section
namespace Go.R

section
variable {P : Program} {G0 : Nat} {K : Known} {H : Heap} {ρ : Operand → Value} {d : Option Tmp} {ty : TypeId} {pos : String} {af : Array Edge} {gd : Option (Nat × Bool)} {v : Value} {q : Option Prop} {hi : Hint}

theorem ari_ok {k : IntKind} {n : Int} (h : ari hi k n = some (v, q)) (hq : holds q) : v = .int k (k.wrap n) := by
  unfold ari at h
  split at h
  · simp only [Option.some.injEq, Prod.mk.injEq] at h; exact h.1.symm
  · simp only [Option.some.injEq, Prod.mk.injEq] at h
    obtain ⟨rfl, rfl⟩ := h
    obtain ⟨rfl, h2⟩ := hq
    rw [rng_wrap h2]
  · simp only [Option.some.injEq, Prod.mk.injEq] at h
    obtain ⟨rfl, rfl⟩ := h
    rw [rng_wrap hq]
theorem bi_ok {k : IntKind} {n : Int} (h : bi hi k n = some (v, q)) (hq : holds q) : v = .int k n := by
  unfold bi at h
  split at h
  · simp only [Option.some.injEq, Prod.mk.injEq] at h
    obtain ⟨rfl, rfl⟩ := h
    have hq' : n = _ := hq
    rw [hq']
  · simp only [Option.some.injEq, Prod.mk.injEq] at h; exact h.1.symm
theorem withP_ok {p : Prop} {r : VP} (h : withP p r = some (v, q)) (hq : holds q) : p ∧ ∃ q', r = some (v, q') ∧ holds q' := by
  match r, h with
  | some (v', none), h =>
    simp only [withP, Option.some.injEq, Prod.mk.injEq] at h
    obtain ⟨rfl, rfl⟩ := h
    exact ⟨hq, none, rfl, trivial⟩
  | some (v', some p'), h =>
    simp only [withP, Option.some.injEq, Prod.mk.injEq] at h
    obtain ⟨rfl, rfl⟩ := h
    exact ⟨hq.1, some p', rfl, hq.2⟩
  | none, h => simp [withP] at h
theorem beq0 {b : Int} (hb : b ≠ 0) : (b == 0) = false := by simpa using hb
variable {x y : Operand} {t yt : TypeId}
theorem pint_ok {op : BinOp} {k : IntKind} {a b : Int} (hx : ρ x = .int k a) (hy : ρ y = .int k b) (h : pint hi op k a b = some (v, q)) (hq : holds q) :
    AP P ρ ⟨d, .binOp op t x y yt, ty, pos, af, gd⟩ H (.val v, H) := by
  have go : ∀ {v' : Value}, isShift op = false → intBin op k a b = some v' → AP P ρ ⟨d, .binOp op t x y yt, ty, pos, af, gd⟩ H (.val v', H) := by
    intro v' hs hv
    exact ap_int hx hy (by rw [hs, kindEq_self]; exact hv)
  cases op with
  | add => rw [ari_ok (n := a + b) h hq]; exact go rfl rfl
  | sub => rw [ari_ok (n := a - b) h hq]; exact go rfl rfl
  | mul => rw [ari_ok (n := a * b) h hq]; exact go rfl rfl
  | quo =>
    obtain ⟨h1, q', h2, h3⟩ := withP_ok (p := b ≠ 0) (r := ari hi k (a.tdiv b)) h hq
    rw [ari_ok h2 h3]
    exact go rfl (by show (bif b == 0 then none else some (Value.int k (k.wrap (a.tdiv b)))) = _; rw [beq0 h1]; rfl)
  | rem =>
    obtain ⟨h1, q', h2, h3⟩ := withP_ok (p := b ≠ 0) (r := bi hi k (a.tmod b)) h hq
    rw [bi_ok h2 h3]
    exact go rfl (by show (bif b == 0 then none else some (Value.int k (a.tmod b))) = _; rw [beq0 h1]; rfl)
  | and => rw [bi_ok (n := bitsOf .and k a b) h hq]; exact go rfl rfl
  | or => rw [bi_ok (n := bitsOf .or k a b) h hq]; exact go rfl rfl
  | xor => rw [bi_ok (n := bitsOf .xor k a b) h hq]; exact go rfl rfl
  | andNot => rw [bi_ok (n := bitsOf .andNot k a b) h hq]; exact go rfl rfl
  | shl => cases h
  | shr => cases h
  | _ =>
    simp only [pint, Option.some.injEq, Prod.mk.injEq] at h
    obtain ⟨rfl, _⟩ := h
    exact go rfl rfl
theorem bool_run {a b : Bool} (h : isBT P t = true) : pureRun P (boolEqRun .eql t x y a b) = some (.value (.bool (a == b))) ∧ pureRun P (boolEqRun .neq t x y a b) = some (.value (.bool (a != b))) := by
  unfold isBT at h
  split at h
  · rename_i hu
    have hg : P.eqGuardType P.depth t = false := by simpa using h
    have e1 : pureRun P (eqGuard .eql t x y (.bool a) (.bool b)) = some () := by simp [eqGuard, hg]
    have e2 : pureRun P (eqGuard .neq t x y (.bool a) (.bool b)) = some () := by simp [eqGuard, hg]
    have e3 : pureRun P (Op.equal t (.bool a) (.bool b)) = some (a == b) := eqB (d := 9999) hu
    constructor
    · unfold boolEqRun
      simp only [pureRun_bind, e1, Option.bind_some]
      have : pureRun P (binOp .eql t (.bool a) (.bool b)) = some (Value.bool (a == b)) := by
        show pureRun P (Op.equal t (.bool a) (.bool b) >>= fun b => (Pure.pure (Value.bool b) : Sem Value)) = _
        rw [pureRun_bind, e3]; rfl
      rw [this]; rfl
    · unfold boolEqRun
      simp only [pureRun_bind, e2, Option.bind_some]
      have : pureRun P (binOp .neq t (.bool a) (.bool b)) = some (Value.bool (a != b)) := by
        show pureRun P (Op.equal t (.bool a) (.bool b) >>= fun b => (Pure.pure (Value.bool (!b)) : Sem Value)) = _
        rw [pureRun_bind, e3]; rfl
      rw [this]; rfl
  · cases h
theorem pbin_ok {op : BinOp} {a b : Value} (hx : ρ x = a) (hy : ρ y = b) (h : pbin P hi op t a b = some (v, q)) (hq : holds q) :
    AP P ρ ⟨d, .binOp op t x y yt, ty, pos, af, gd⟩ H (.val v, H) := by
  have nilc : ∀ (a b : Value) (r : Bool), ρ x = a → ρ y = b → (∃ p, a = .pointer p) ∨ (∃ p n k, a = .slice p n k) → nilEq P t a b = some r → (op = .eql → v = .bool r) → (op = .neq → v = .bool (!r)) → (op = .eql ∨ op = .neq) →
      AP P ρ ⟨d, .binOp op t x y yt, ty, pos, af, gd⟩ H (.val v, H) := by
    intro a b r hx hy ha hr h1 h2 h3
    refine ⟨?_⟩
    show aBin P ρ _ op t (ρ x) y H = _
    have : aBin P ρ ⟨d, .binOp op t x y yt, ty, pos, af, gd⟩ op t (ρ x) y H = nilBin op (nilEq P t a b) H := by
      rw [hx]
      rcases ha with ⟨p, rfl⟩ | ⟨p, n, k, rfl⟩ <;> (rw [← hy]; rfl)
    rw [this, hr]
    rcases h3 with rfl | rfl
    · rw [h1 rfl]; rfl
    · rw [h2 rfl]; rfl
  unfold pbin at h
  split at h
  · -- integers
    split at h
    · obtain ⟨h1, q', h2, h3⟩ := withP_ok h hq
      rw [bi_ok h2 h3]; exact ap_shl hx hy h1
    · obtain ⟨h1, q', h2, h3⟩ := withP_ok h hq
      rw [bi_ok h2 h3]; exact ap_shr hx hy h1
    · rename_i k a k' b _ _ _
      cases hk : kq k k' with
      | false => rw [hk] at h; cases h
      | true =>
        rw [hk] at h
        have := kq_eq hk; subst this
        exact pint_ok hx hy h hq
  · split at h <;> simp only [Option.some.injEq, Prod.mk.injEq, reduceCtorEq] at h
    · obtain ⟨rfl, _⟩ := h; exact ap_eqS hx hy
    · obtain ⟨rfl, _⟩ := h; exact ap_neS hx hy
    · obtain ⟨rfl, _⟩ := h; exact ap_ltS hx hy
    · obtain ⟨rfl, _⟩ := h; exact ap_leS hx hy
    · obtain ⟨rfl, rfl⟩ := h; exact ap_addS hx hy hq
  · cases hbt : isBT P t with
    | false => rw [hbt] at h; cases h
    | true =>
      rw [hbt] at h
      simp only [cond_true] at h
      split at h <;> simp only [Option.some.injEq, Prod.mk.injEq, reduceCtorEq] at h
      · obtain ⟨rfl, _⟩ := h; exact ap_boolEq hx hy (fun a b => (bool_run hbt).1)
      · obtain ⟨rfl, _⟩ := h; exact ap_boolNe hx hy (fun a b => (bool_run hbt).2)
  · split at h <;> simp only [Option.some.injEq, Prod.mk.injEq, reduceCtorEq] at h
    obtain ⟨rfl, rfl⟩ := h
    exact hq ρ x y yt d ty pos af gd H hx hy
  · split at h <;> simp only [Option.some.injEq, Prod.mk.injEq, reduceCtorEq] at h
    · rename_i hr; obtain ⟨rfl, _⟩ := h; exact nilc _ _ _ hx hy (.inl ⟨_, rfl⟩) hr (fun _ => rfl) (fun e => by cases e) (.inl rfl)
    · rename_i hr; obtain ⟨rfl, _⟩ := h; exact nilc _ _ _ hx hy (.inl ⟨_, rfl⟩) hr (fun e => by cases e) (fun _ => rfl) (.inr rfl)
  · split at h <;> simp only [Option.some.injEq, Prod.mk.injEq, reduceCtorEq] at h
    · rename_i hr; obtain ⟨rfl, _⟩ := h; exact nilc _ _ _ hx hy (.inr ⟨_, _, _, rfl⟩) hr (fun _ => rfl) (fun e => by cases e) (.inl rfl)
    · rename_i hr; obtain ⟨rfl, _⟩ := h; exact nilc _ _ _ hx hy (.inr ⟨_, _, _, rfl⟩) hr (fun e => by cases e) (fun _ => rfl) (.inr rfl)
  · cases h
theorem pun_ok {op : UnOp} {a : Value} (hx : ρ x = a) (h : pun hi op a = some (v, q)) (hq : holds q) : AP P ρ ⟨d, .unOp op t x, ty, pos, af, gd⟩ H (.val v, H) := by
  unfold pun at h
  split at h
  · simp only [Option.some.injEq, Prod.mk.injEq] at h; obtain ⟨rfl, _⟩ := h; exact ap_not hx
  · rw [ari_ok h hq]; exact ap_neg hx
  · rw [bi_ok h hq]; exact ap_cpl hx
  · cases h
theorem pconv_ok {s : TypeId} {a : Value} (hx : ρ x = a) (h : pconv P H hi s t a = some (v, q)) (hq : holds q) : AP P ρ ⟨d, .convert s t x, ty, pos, af, gd⟩ H (.val v, H) := by
  unfold pconv at h
  split at h
  · split at h
    · rename_i h1 h2
      rw [ari_ok h hq]; exact ap_conv hx h1 h2
    · cases h
  · split at h
    · simp only [Option.some.injEq, Prod.mk.injEq] at h; obtain ⟨rfl, rfl⟩ := h
      refine ⟨?_⟩
      show aConvert P ρ _ s t (ρ x) H = _
      rw [hx]
      show ovl (convBytes P s t _ _ H) H = _
      have hq' : convBytes P s t _ _ H = _ := hq
      rw [hq']; rfl
    · cases h
  · cases h
theorem ppick_ok {g : Bool} {a b v : Value} (h : ppick g a b = some v) : v = bif g then a else b := by
  unfold ppick at h
  split at h
  · simp only [Option.some.injEq] at h; subst h; cases g <;> rfl
  · rename_i k x k' y
    cases hk : kq k k' with
    | false => rw [hk] at h; cases h
    | true =>
      rw [hk] at h
      have := kq_eq hk; subst this
      simp only [cond_true, Option.some.injEq] at h; subst h; cases g <;> rfl
  · simp only [Option.some.injEq] at h; subst h; cases g <;> rfl
  · cases h
theorem pidx_ok {i : Operand} {a b : Value} (hx : ρ x = a) (hi' : ρ i = b) (h : pidx P t a b = some (v, q)) (hq : holds q) : AP P ρ ⟨d, .index t x i, ty, pos, af, gd⟩ H (.val v, H) := by
  unfold pidx at h
  split at h
  · rename_i s _ j
    split at h
    · rename_i h1
      simp only [Option.some.injEq, Prod.mk.injEq] at h; obtain ⟨rfl, rfl⟩ := h
      obtain ⟨q1, q2⟩ := hq
      obtain ⟨⟨s⟩⟩ := s
      have q3 : j < (s.length : Int) := q2
      exact ap_idxS (s := s) hx hi' h1 q1 (getD_at (by omega))
    · cases h
  · split at h
    · rename_i h1
      simp only [Option.some.injEq, Prod.mk.injEq] at h; obtain ⟨rfl, rfl⟩ := h
      exact ap_ixG hx hi' h1
    · cases h
  · cases h
theorem pidxA_ok {i : Operand} {a b : Value} (hx : ρ x = a) (hi' : ρ i = b) (h : pidxA P t a b = some (v, q)) (hq : holds q) : AP P ρ ⟨d, .indexAddr t x i, ty, pos, af, gd⟩ H (.val v, H) := by
  unfold pidxA at h
  split at h
  · split at h
    · rename_i h1
      split at h
      · rename_i h2
        simp only [Option.some.injEq, Prod.mk.injEq] at h; obtain ⟨rfl, rfl⟩ := h
        obtain ⟨b, o, n, k, e, q1, q2, q3⟩ := hq
        cases e
        exact ap_indexAddr hx hi' h1 h2 q1 q2 q3
      · cases h
    · cases h
  · split at h
    · rename_i h1
      split at h
      · rename_i h2
        simp only [Option.some.injEq, Prod.mk.injEq] at h; obtain ⟨rfl, rfl⟩ := h
        obtain ⟨q1, q2⟩ := hq
        refine ⟨?_⟩
        rename_i kk j n e z _
        obtain ⟨m, rfl⟩ := Int.eq_ofNat_of_zero_le q1
        show ovl (aIndexAddr P t (ρ x) (ρ i)) H = _
        rw [hx, hi']
        unfold aIndexAddr
        rw [h1]
        have h3 : Nat.ble (m + 1) n = true := Nat.ble_eq_true_of_le (by omega)
        show ovl (match szOf P e with | some sz => bif Nat.ble (m + 1) n then some (.pointer (some ⟨_, _ + m * sz, none⟩)) else none | none => none) H = _
        rw [h2]
        simp only [h3, cond_true]; rfl
      · cases h
    · cases h
  · cases h
theorem sl_str {lo hi : Option Operand} {s : ByteArray} {i j : Nat} (hx : ρ x = .string s) (ht : P.underlying t = some .string) (h1 : optNat s.data.toList.length (hi.map ρ) = some j) (h2 : optNat 0 (lo.map ρ) = some i) (hij : i ≤ j) (hj : j ≤ s.data.toList.length) :
    AP P ρ ⟨d, .slice t x lo hi none, ty, pos, af, gd⟩ H (.val (.string ⟨⟨(s.data.toList.drop i).take (j - i)⟩⟩), H) := by
  obtain ⟨⟨s⟩⟩ := s
  exact ap_slS hx ht h1 h2 hij hj
theorem pslice_ok {lo hi2 : Option Operand} {a : Value} (hx : ρ x = a) (h : pslice P H hi t a (lo.map ρ) (hi2.map ρ) = some (v, q)) (hq : holds q) : AP P ρ ⟨d, .slice t x lo hi2 none, ty, pos, af, gd⟩ H (.val v, H) := by
  unfold pslice at h
  split at h
  · rename_i s
    split at h
    · rename_i h1
      split at h
      · rename_i e1 e2
        simp only [Option.some.injEq, Prod.mk.injEq] at h; obtain ⟨rfl, rfl⟩ := h
        have := sl_str (d := d) (ty := ty) (pos := pos) (af := af) (gd := gd) (H := H) (lo := lo) (hi := hi2) (i := 0) (j := s.data.toList.length) hx h1 (by rw [e2]; rfl) (by rw [e1]; rfl) (Nat.zero_le _) (Nat.le_refl _)
        rw [List.drop_zero, Nat.sub_zero, List.take_length] at this
        exact this
      · rename_i k i e1 e2
        simp only [Option.some.injEq, Prod.mk.injEq] at h; obtain ⟨rfl, rfl⟩ := h
        obtain ⟨q1, q2⟩ := hq
        have := sl_str (d := d) (ty := ty) (pos := pos) (af := af) (gd := gd) (H := H) (lo := lo) (hi := hi2) (i := i.toNat) (j := s.data.toList.length) hx h1 (by rw [e2]; rfl) (by rw [e1]; exact optN q1) (by omega) (Nat.le_refl _)
        rw [List.take_of_length_le (by rw [List.length_drop]; omega)] at this
        exact this
      · rename_i k j e1 e2
        simp only [Option.some.injEq, Prod.mk.injEq] at h; obtain ⟨rfl, rfl⟩ := h
        obtain ⟨q1, q2⟩ := hq
        have := sl_str (d := d) (ty := ty) (pos := pos) (af := af) (gd := gd) (H := H) (lo := lo) (hi := hi2) (i := 0) (j := j.toNat) hx h1 (by rw [e2]; exact optN q1) (by rw [e1]; rfl) (Nat.zero_le _) (by omega)
        simpa using this
      · rename_i k i k' j e1 e2
        simp only [Option.some.injEq, Prod.mk.injEq] at h; obtain ⟨rfl, rfl⟩ := h
        obtain ⟨q1, q2, q3⟩ := hq
        exact sl_str (lo := lo) (hi := hi2) (i := i.toNat) (j := j.toNat) hx h1 (by rw [e2]; exact optN (by omega)) (by rw [e1]; exact optN q1) (by omega) (by omega)
      · cases h
    · cases h
  · split at h
    · simp only [Option.some.injEq, Prod.mk.injEq] at h; obtain ⟨rfl, rfl⟩ := h
      refine ⟨?_⟩
      show ovl (aSlice P t (ρ x) (lo.map ρ) (hi2.map ρ) (Option.map ρ none) H) H = _
      have hq' : aSlice P t _ (lo.map ρ) (hi2.map ρ) none H = _ := hq
      rw [hx, Option.map_none, hq']; rfl
    · cases h
theorem plen_ok {a : Value} (hx : ρ x = a) (h : plen P t a = some (v, q)) : AP P ρ ⟨d, .call ⟨.builtin .len, #[x], #[t]⟩, ty, pos, af, gd⟩ H (.val v, H) := by
  unfold plen at h
  split at h
  · rename_i s
    split at h
    · rename_i h1
      simp only [Option.some.injEq, Prod.mk.injEq] at h; obtain ⟨rfl, rfl⟩ := h
      obtain ⟨⟨s⟩⟩ := s
      exact ap_lenS (s := s) hx h1
    · cases h
  · split at h
    · rename_i h1
      simp only [Option.some.injEq, Prod.mk.injEq] at h; obtain ⟨rfl, rfl⟩ := h
      refine ⟨?_⟩
      show ovl (aLen P t (ρ x) H) H = _
      rw [hx]
      unfold aLen
      rw [h1]; rfl
    · cases h
  · cases h

/-- What an operation comes to that leaves the heap as it is. -/
inductive PRes (P : Program) (G0 : Nat) (K : Known) (ρ : Operand → Value) (o : Oper) (H : Heap) (v : Value) : Prop where
  | val (h : AP P ρ o H (.val v, H))
  | call (g : FuncId) (args : List Value) (h : AP P ρ o H (.enter g args, H)) (hk : otherKind o.op = true) (hc : C P G0 K g args H fun v' H' => v' = v ∧ H' = H)
theorem mapL_congr {ρ ρ' : Operand → Value} : ∀ {l : List Operand}, (∀ x, x ∈ l → ρ x = ρ' x) → mapL ρ l = mapL ρ' l
  | [], _ => rfl
  | x :: l, h => by
    show ρ x :: mapL ρ l = ρ' x :: mapL ρ' l
    rw [h x (by simp), mapL_congr fun y hy => h y (by simp [hy])]
theorem pmm_ok {w : Bool} {y : Operand} {ats : Array TypeId} {a b : Value} (hx : ρ x = a) (hy : ρ y = b) (h : pmm w a b = some (v, q)) : AP P ρ ⟨d, .call ⟨.builtin (bif w then .min else .max), #[x, y], ats⟩, ty, pos, af, gd⟩ H (.val v, H) := by
  unfold pmm at h
  split at h
  · rename_i k n k' m
    simp only [Option.some.injEq, Prod.mk.injEq] at h; obtain ⟨rfl, rfl⟩ := h
    have h1 : ([ρ x, ρ y].all fun z => noA1 z) = true := by simp [hx, hy, noA1, noA0]
    cases w with
    | true =>
      refine ⟨?_⟩
      show plainOp P ρ ⟨d, .call ⟨.builtin .min, #[x, y], ats⟩, ty, pos, af, gd⟩ H = _
      unfold plainOp
      have h3 : ((Op.call ⟨.builtin .min, #[x, y], ats⟩).operands.toList.all fun x => noA1 (ρ x)) = true := by simp [Op.operands, Call.operands, hx, hy, noA1, noA0]
      simp only [h3, cond_true]
      have h2 : pureRun P (execOp ρ ⟨d, .call ⟨.builtin .min, #[x, y], ats⟩, ty, pos, af, gd⟩) = some (.value (.int k (if m < n then m else n))) := by
        unfold execOp
        simp [resolve, invoke, builtin, Builtin.min_, Builtin.min2, hx, hy, pureRun_bind]
      rw [h2]; rfl
    | false =>
      refine ⟨?_⟩
      show plainOp P ρ ⟨d, .call ⟨.builtin .max, #[x, y], ats⟩, ty, pos, af, gd⟩ H = _
      unfold plainOp
      have h3 : ((Op.call ⟨.builtin .max, #[x, y], ats⟩).operands.toList.all fun x => noA1 (ρ x)) = true := by simp [Op.operands, Call.operands, hx, hy, noA1, noA0]
      simp only [h3, cond_true]
      have h2 : pureRun P (execOp ρ ⟨d, .call ⟨.builtin .max, #[x, y], ats⟩, ty, pos, af, gd⟩) = some (.value (.int k (if m > n then m else n))) := by
        unfold execOp
        simp [resolve, invoke, builtin, Builtin.max_, Builtin.max2, hx, hy, pureRun_bind]
      rw [h2]; rfl
  · cases h
theorem pcall_ok {ρ ρ' : Operand → Value} {c : Call} (hρ : ∀ x, x ∈ (Op.call c).operands.toList → ρ x = ρ' x) (h : pcall P G0 K H hi ρ' c = some (v, q)) (hq : holds q) :
    PRes P G0 K ρ ⟨d, .call c, ty, pos, af, gd⟩ H v := by
  obtain ⟨cal, args, ats⟩ := c
  cases cal with
  | builtin b =>
    cases b with
    | len =>
      obtain ⟨ats⟩ := ats
      obtain ⟨args⟩ := args
      simp only [pcall] at h
      split at h
      · exact .val (plen_ok (hρ _ (by simp [Op.operands, Call.operands])) h)
      · cases h
    | min =>
      obtain ⟨args⟩ := args
      simp only [pcall] at h
      split at h
      · exact .val (pmm_ok (w := true) (hρ _ (by simp [Op.operands, Call.operands])) (hρ _ (by simp [Op.operands, Call.operands])) h)
      · cases h
    | max =>
      obtain ⟨args⟩ := args
      simp only [pcall] at h
      split at h
      · exact .val (pmm_ok (w := false) (hρ _ (by simp [Op.operands, Call.operands])) (hρ _ (by simp [Op.operands, Call.operands])) h)
      · cases h
    | _ => cases h
  | value f =>
    simp only [pcall] at h
    split at h
    · rename_i h1
      simp only [Option.some.injEq, Prod.mk.injEq] at h; obtain ⟨rfl, rfl⟩ := h
      refine .call _ _ ⟨?_⟩ rfl hq
      show opCallee (aCallee P (ρ f) (mapL ρ args.toList)) H = _
      rw [hρ f (by simp [Op.operands, Call.operands]), mapL_congr (ρ' := ρ') (fun x hx => hρ x (by simp [Op.operands, Call.operands] at hx ⊢; exact .inr hx)), h1]; rfl
    · cases h
  | invoke r m => cases h
theorem pop_ok {ρ ρ' : Operand → Value} {op : Op} (hρ : ∀ x, x ∈ op.operands.toList → ρ x = ρ' x) (h : pop P G0 K H hi ρ' op = some (v, q)) (hq : holds q) :
    PRes P G0 K ρ ⟨d, op, ty, pos, af, gd⟩ H v := by
  cases op with
  | move x =>
    simp only [pop, Option.some.injEq, Prod.mk.injEq] at h; obtain ⟨rfl, rfl⟩ := h
    exact .val (ap_move (hρ x (by simp [Op.operands])))
  | assign x =>
    simp only [pop, Option.some.injEq, Prod.mk.injEq] at h; obtain ⟨rfl, rfl⟩ := h
    exact .val (ap_assign (hρ x (by simp [Op.operands])))
  | binOp op t x y yt => exact .val (pbin_ok (hρ x (by simp [Op.operands])) (hρ y (by simp [Op.operands])) h hq)
  | unOp op t x => exact .val (pun_ok (hρ x (by simp [Op.operands])) h hq)
  | convert s t x => exact .val (pconv_ok (hρ x (by simp [Op.operands])) h hq)
  | load t a =>
    simp only [pop] at h
    split at h
    · simp only [Option.some.injEq, Prod.mk.injEq] at h; obtain ⟨rfl, rfl⟩ := h
      refine .val ⟨?_⟩
      show opLoad P t (ρ a) H = _
      rw [hρ a (by simp [Op.operands])]
      exact hq
    · cases h
  | index t x i => exact .val (pidx_ok (hρ x (by simp [Op.operands])) (hρ i (by simp [Op.operands])) h hq)
  | indexAddr t x i => exact .val (pidxA_ok (hρ x (by simp [Op.operands])) (hρ i (by simp [Op.operands])) h hq)
  | field t x f =>
    simp only [pop, optV] at h
    split at h
    · rename_i h1
      simp only [Option.some.injEq, Prod.mk.injEq] at h; obtain ⟨rfl, rfl⟩ := h
      exact .val (ap_fv (hρ x (by simp [Op.operands])) h1)
    · cases h
  | fieldAddr s x f =>
    simp only [pop, optV] at h
    split at h
    · rename_i h1
      simp only [Option.some.injEq, Prod.mk.injEq] at h; obtain ⟨rfl, rfl⟩ := h
      refine .val ⟨?_⟩
      show ovl (aField P s (ρ x) f) H = _
      rw [hρ x (by simp [Op.operands]), h1]; rfl
    · cases h
  | extract x i =>
    simp only [pop, optV] at h
    split at h
    · rename_i h1
      simp only [Option.some.injEq, Prod.mk.injEq] at h; obtain ⟨rfl, rfl⟩ := h
      exact .val (ap_ex (hρ x (by simp [Op.operands])) h1)
    · cases h
  | build t parts =>
    simp only [pop, optV] at h
    split at h
    · rename_i z hz
      split at h
      · rename_i h1
        simp only [Option.some.injEq, Prod.mk.injEq] at h; obtain ⟨rfl, rfl⟩ := h
        refine .val (ap_bld ?_ hz h1)
        apply Array.map_congr_left
        intro p hp
        rw [hρ p.2 (by simp only [Op.operands, Array.toList_map, List.mem_map]; exact ⟨p, by simpa using hp, rfl⟩)]
      · cases h
    · cases h
  | slice t x lo hi2 mx =>
    cases mx with
    | some _ => simp only [pop] at h; cases h
    | none =>
      simp only [pop] at h
      have e1 : lo.map ρ = lo.map ρ' := by
        cases lo with
        | none => rfl
        | some o => simp only [Option.map_some]; rw [hρ o (by simp [Op.operands])]
      have e2 : hi2.map ρ = hi2.map ρ' := by
        cases hi2 with
        | none => rfl
        | some o => simp only [Option.map_some]; rw [hρ o (by simp [Op.operands])]
      rw [← e1, ← e2] at h
      exact .val (pslice_ok (hρ x (by simp [Op.operands])) h hq)
  | call c => exact pcall_ok hρ h hq
  | nilCheck x =>
    simp only [pop] at h
    have hx := hρ x (by simp [Op.operands])
    split at h
    · rename_i a ha
      simp only [Option.some.injEq, Prod.mk.injEq] at h; obtain ⟨rfl, rfl⟩ := h
      refine .val ⟨?_⟩
      show opNil (ρ x) H = _
      rw [hx, ha]; rfl
    · rename_i f a c ha
      simp only [Option.some.injEq, Prod.mk.injEq] at h; obtain ⟨rfl, rfl⟩ := h
      refine .val ⟨?_⟩
      show opNil (ρ x) H = _
      rw [hx, ha]; rfl
    · cases h
  | makeFunc fn first cap =>
    simp only [pop, Option.some.injEq, Prod.mk.injEq] at h; obtain ⟨rfl, rfl⟩ := h
    refine .val ⟨?_⟩
    show some (AN.val (.func fn (first.map ρ) (cap.map ρ)), H) = _
    have e1 : first.map ρ = first.map ρ' := Array.map_congr_left fun x hx => hρ x (by simp [Op.operands] at hx ⊢; first | exact .inl hx | exact .inr hx)
    have e2 : cap.map ρ = cap.map ρ' := Array.map_congr_left fun x hx => hρ x (by simp [Op.operands] at hx ⊢; first | exact .inl hx | exact .inr hx)
    rw [e1, e2]
  | _ => cases h
end
end Go.R
end
