/-
  Symbolic runs: cuts (a code's own end, then the rest), regions that draw with what each operation did, more operations on strings and slices.
  No condition beyond those that each statement names.
-/
import Derived.Test.YtcakpkdeojhacaaRxA
noncomputable section
namespace Go.R

/-! The frame's size stands. -/
section
variable {P : Program} {G : Nat} {cf : CallF} {ops : Array Oper}
theorem put_size {s s' : St} {d : Option Tmp} {v : Value} (h : s.put d v = some s') : s'.size = s.size := by
  unfold St.put at h
  cases d with
  | none => simp only [Option.some.injEq] at h; rw [← h]
  | some d =>
    cases hb : Nat.ble (d + 1) s.size with
    | true => simp only [hb, cond_true, Option.some.injEq] at h; rw [← h]
    | false => simp only [hb, cond_false] at h; cases h
theorem step_size {o : Oper} {s s' : St} (h : step P G cf ops o s = some s') : s'.size = s.size := by
  unfold step at h
  cases hw : wantedL ops o s.tmps with
  | false => simp only [hw, cond_false] at h; exact put_size h
  | true =>
    simp only [hw, cond_true] at h
    cases hq : o.op.operands.toList.all (opnOK G) with
    | false => rw [hq] at h; cases h
    | true =>
      rw [hq] at h
      simp only [cond_true] at h
      split at h
      · have := put_size h; exact this
      · have := put_size h; exact this
      · split at h
        · have := put_size h; exact this
        · cases h
      · cases h
theorem runOps_size : ∀ (l : List Oper) (s s' : St), runOps P G cf ops l s = some s' → s'.size = s.size
  | [], _, _, h => by rw [runOps_nil] at h; simp only [Option.some.injEq] at h; rw [← h]
  | o :: l, s, s', h => by
    rw [runOps_cons] at h
    split at h
    · rename_i t ht; rw [runOps_size l _ _ h, step_size ht]
    · cases h
theorem runOpsD_size : ∀ (l : List Oper) (i : Nat) (fs : List (Nat × Inf)) (s s' : St), runOpsD P G cf ops i fs l s = some s' → s'.size = s.size
  | [], _, _, _, _, h => by unfold runOpsD at h; simp only [Option.some.injEq] at h; rw [← h]
  | o :: l, i, fs, s, s', h => by
    unfold runOpsD at h
    split at h
    · rename_i t f ht
      cases hq : allCompat (ancOf ops) i f fs with
      | false => rw [hq] at h; cases h
      | true =>
        rw [hq] at h
        rw [runOpsD_size l _ _ _ _ h]
        unfold stepD at ht
        split at ht
        · rename_i t' ht'
          simp only [Option.some.injEq, Prod.mk.injEq] at ht
          rw [← ht.1]
          have := step_size ht'
          exact this
        · cases ht
    · cases h
theorem region_size {draw : Bool} {s s' : St} (h : runRegion P G cf ops draw s = some s') : s'.size = s.size := by
  unfold runRegion at h
  cases draw with
  | false => exact runOps_size _ _ _ h
  | true =>
    simp only [cond_true] at h
    cases hq : regOK ops && P.follows .mixedOrders with
    | false => rw [hq] at h; cases h
    | true => rw [hq] at h; exact runOpsD_size _ _ _ _ _ h
def SizeOK (ex : Code → St → Option (Ex × St)) : Prop := ∀ c s e s', ex c s = some (e, s') → s'.size = s.size
theorem execC_size {ex : Code → St → Option (Ex × St)} (hex : SizeOK ex) : SizeOK (execC P G ex cf) := by
  intro c
  have hseq : ∀ {r : Option (Ex × St)} {k : St → Option (Ex × St)} {n : Nat} {e : Ex} {s' : St}, (∀ e s, r = some (e, s) → s.size = n) → (∀ s e s', s.size = n → k s = some (e, s') → s'.size = n) → exSeq r k = some (e, s') → s'.size = n := by
    intro r k n e s' hr hk h
    cases hq : r with
    | none => rw [hq] at h; cases h
    | some y =>
      obtain ⟨e1, s1⟩ := y
      have h1 := hr e1 s1 hq
      rw [hq] at h
      cases e1 with
      | normal => exact hk s1 e s' h1 h
      | exit i => simp only [exSeq, Option.some.injEq, Prod.mk.injEq] at h; rw [← h.2]; exact h1
      | ret => simp only [exSeq, Option.some.injEq, Prod.mk.injEq] at h; rw [← h.2]; exact h1
  induction c with
  | skip => intro s e s' h; rw [execC_skip] at h; simp only [Option.some.injEq, Prod.mk.injEq] at h; rw [← h.2]
  | region id ops draw =>
    intro s e s' h
    rw [execC_region] at h
    cases hq : runRegion P G cf ops draw s with
    | none => rw [hq] at h; cases h
    | some t =>
      rw [hq] at h
      simp only [exRegion, Option.some.injEq, Prod.mk.injEq] at h
      rw [← h.2]; exact region_size hq
  | seq a b iha ihb =>
    intro s e s' h
    rw [execC_seq] at h
    exact hseq (fun e s1 h1 => iha s e s1 h1) (fun s1 e s' h1 h2 => (ihb s1 e s' h2).trans h1) h
  | cond c t e iht ihe =>
    intro s e s' h
    rw [execC_cond] at h
    cases hq : opnOK G c with
    | false => rw [hq] at h; cases h
    | true =>
      rw [hq] at h
      simp only [cond_true] at h
      unfold exCond at h
      split at h
      · rename_i b hb
        cases b with
        | true => exact iht s _ s' h
        | false => exact ihe s _ s' h
      · cases h
  | block id b ih =>
    intro s e s' h
    rw [execC_block] at h
    cases hq : execC P G ex cf b s with
    | none => rw [hq] at h; cases h
    | some y =>
      obtain ⟨e1, s1⟩ := y
      have h1 := ih s e1 s1 hq
      rw [hq] at h
      cases e1 with
      | normal => simp only [exBlock, Option.some.injEq, Prod.mk.injEq] at h; rw [← h.2]; exact h1
      | exit i =>
        unfold exBlock at h
        cases hb : Nat.beq i id with
        | true => simp only [hb, cond_true, Option.some.injEq, Prod.mk.injEq] at h; rw [← h.2]; exact h1
        | false => simp only [hb, cond_false, Option.some.injEq, Prod.mk.injEq] at h; rw [← h.2]; exact h1
      | ret => simp only [exBlock, Option.some.injEq, Prod.mk.injEq] at h; rw [← h.2]; exact h1
  | loop b ih =>
    intro s e s' h
    rw [execC_loop] at h
    exact hseq (fun e s1 h1 => ih s e s1 h1) (fun s1 e s' h1 h2 => (hex _ s1 e s' h2).trans h1) h
  | exit id => intro s e s' h; rw [execC_exit] at h; simp only [Option.some.injEq, Prod.mk.injEq] at h; rw [← h.2]
  | ret => intro s e s' h; rw [execC_ret] at h; simp only [Option.some.injEq, Prod.mk.injEq] at h; rw [← h.2]
  | _ => intro s e s' h; cases h
theorem exec_size {K : Known} : ∀ n, SizeOK (exec P G K n)
  | 0 => fun c s e s' h => by cases h
  | n + 1 => fun c => execC_size (exec_size n) c
end

section
variable {P : Program} {G : Nat} {K : Known} {sz : Nat} {Q Q1 : Ex → Fn → Heap → Prop} {c : Code} {k : List Fr} {f : Fn} {H : Heap}
/-- A code's own end, then the rest. -/
theorem wk_cut (h1 : WK P G K sz c [] f H Q1) (h2 : ∀ f' H', Q1 .normal f' H' → WK P G K sz .skip k f' H' Q) (h3 : ∀ i f' H', Q1 (.exit i) f' H' → WK P G K sz (.exit i) k f' H' Q) (h4 : ∀ f' H', Q1 .ret f' H' → Q .ret f' H') :
    WK P G K sz c k f H Q := ⟨fun t ht => by
  obtain ⟨n1, e, s1, hx, hq⟩ := h1.out t ht
  have hx' : exec P G K (n1 + 1) c ⟨t, sz, H⟩ = some (e, s1) := hx
  have hsz := exec_size _ _ _ _ _ hx'
  obtain ⟨t1, sz1, H1⟩ := s1
  have hsz1 : sz1 = sz := hsz
  subst hsz1
  cases e with
  | ret => exact ⟨n1, .ret, _, by rw [hx']; exact runK_ret k, h4 _ _ hq⟩
  | normal =>
    obtain ⟨n2, e, s', h5, h6⟩ := (h2 _ _ hq).out t1 rfl
    refine ⟨Nat.max n1 n2, e, s', ?_, h6⟩
    refine runK_mono (Nat.succ_le_succ (Nat.le_max_right n1 n2)) k _ _ (fun x hx2 => ?_) _ h5
    have : x = (.normal, ⟨t1, sz1, H1⟩) := by
      have : some (Ex.normal, (⟨t1, sz1, H1⟩ : St)) = some x := hx2
      exact (Option.some.inj this).symm
    subst this
    exact exec_mono (Nat.succ_le_succ (Nat.le_max_left n1 n2)) _ _ _ hx'
  | exit i =>
    obtain ⟨n2, e, s', h5, h6⟩ := (h3 i _ _ hq).out t1 rfl
    refine ⟨Nat.max n1 n2, e, s', ?_, h6⟩
    refine runK_mono (Nat.succ_le_succ (Nat.le_max_right n1 n2)) k _ _ (fun x hx2 => ?_) _ h5
    have : x = (.exit i, ⟨t1, sz1, H1⟩) := by
      have : some (Ex.exit i, (⟨t1, sz1, H1⟩ : St)) = some x := hx2
      exact (Option.some.inj this).symm
    subst this
    exact exec_mono (Nat.succ_le_succ (Nat.le_max_left n1 n2)) _ _ _ hx'⟩

/-- A slot between two numbers, or of a list. -/
def inR (lo hi : Nat) (ex : List Nat) (j : Nat) : Bool := (Nat.ble lo j && Nat.ble j hi) || memB j ex
/-- Slots between two numbers are others'. -/
def hav (lo hi : Nat) (ex : List Nat) (g f : Fn) : Fn := fun j => bif inR lo hi ex j then g j else f j
/-- What a piece of a run leaves: outside lo..hi the slots stand but for those of l. -/
structure Leaves (lo hi : Nat) (ex : List Nat) (f f' : Fn) : Prop where
  out : ∀ j, inR lo hi ex j = false → f' j = f j
theorem Leaves.refl {lo hi : Nat} {ex : List Nat} {f : Fn} : Leaves lo hi ex f f := ⟨fun _ _ => rfl⟩
theorem Leaves.upd {lo hi : Nat} {ex : List Nat} {f f' : Fn} {i : Nat} {v : Value} (hi' : inR lo hi ex i = true) (h : Leaves lo hi ex f f') : Leaves lo hi ex f (upd f' i v) := ⟨fun j hj => by
  unfold Go.R.upd
  cases hb : Nat.beq i j with
  | true => have := Nat.eq_of_beq_eq_true hb; subst this; rw [hi'] at hj; cases hj
  | false => exact h.out j hj⟩
theorem Leaves.eq {lo hi : Nat} {ex : List Nat} {f f' : Fn} (h : Leaves lo hi ex f f') : f' = hav lo hi ex f' f := by
  funext j
  unfold hav
  cases hb : inR lo hi ex j with
  | true => rfl
  | false => exact h.out j hb
/-- A region by itself; then the rest, its slots forgotten but for those of l. -/
theorem wk_rcut {id : Nat} {ops : Array Oper} {draw : Bool} (lo hi : Nat) (ex : List Nat) (l : List (Nat × Value)) (HQ : Heap → Prop)
    (h1 : WK P G K sz (.region id ops draw) [] f H fun e f' H' => e = .normal ∧ HQ H' ∧ Leaves lo hi ex f f' ∧ agrees f' l)
    (h2 : ∀ g H', HQ H' → WK P G K sz .skip k (updL (hav lo hi ex g f) l) H' Q) : WK P G K sz (.region id ops draw) k f H Q := by
  refine wk_cut h1 ?_ ?_ ?_
  · rintro f' H' ⟨_, hH, hl, ha⟩
    have := h2 f' H' hH
    rw [← hl.eq, updL_self ha] at this
    exact this
  · rintro i f' H' ⟨h, _⟩; cases h
  · rintro f' H' ⟨h, _⟩; cases h
end

/-! Regions that draw: what each operation did is kept. -/
inductive ID where
  | v
  | a
  | r
  | l (b : Nat)
  | x (W : List Nat)
def ID.fits : ID → Inf → Prop
  | .v, g => g = .v
  | .a, g => ∃ b, g = .a b
  | .r, g => benign g = true
  | .l b, g => g = .l b
  | .x W, g => ∃ w, g = .x w ∧ ∀ b, b ∈ w → b ∈ W
def ID.nilW : List Nat → Prop
  | [] => True
  | _ => False
def cD : ID → ID → Prop
  | .v, _ => True
  | _, .v => True
  | .l b, .x W => b ∉ W
  | .x W, .l b => b ∉ W
  | .x W, .x U => ID.nilW W ∧ ID.nilW U
  | .a, .x W => ID.nilW W
  | .r, .x W => ID.nilW W
  | .x _, .a => True
  | .x W, .r => ID.nilW W
  | _, _ => True
theorem memB_false {b : Nat} : ∀ {l : List Nat}, b ∉ l → memB b l = false
  | [], _ => rfl
  | c :: l, h => by
    simp only [List.mem_cons, not_or] at h
    unfold memB
    have : Nat.beq b c = false := by
      cases hb : Nat.beq b c with
      | false => rfl
      | true => exact absurd (Nat.eq_of_beq_eq_true hb) h.1
    rw [this, memB_false h.2]; rfl
theorem fits_benign : ∀ {d : ID} {g : Inf}, d.fits g → (∀ W, d ≠ .x W) → benign g = true
  | .v, _, h, _ => by subst h; rfl
  | .a, _, ⟨_, h⟩, _ => by subst h; rfl
  | .r, _, h, _ => h
  | .l _, _, h, _ => by subst h; rfl
  | .x W, _, _, h => absurd rfl (h W)
theorem nilW_benign {W : List Nat} {g : Inf} (h : ID.nilW W) (hf : ID.fits (.x W) g) : benign g = true := by
  obtain ⟨w, rfl, hw⟩ := hf
  cases W with
  | nil =>
    cases w with
    | nil => rfl
    | cons a t => have := hw a (by simp); simp at this
  | cons _ _ => exact absurd h id
theorem compat_of {d e : ID} {f g : Inf} (hd : d.fits f) (he : e.fits g) (h : cD d e) : compat f g = true := by
  have key : benign f = true → benign g = true → compat f g = true := benign_compat
  cases d with
  | v => rw [show f = .v from hd]; rfl
  | a =>
    cases e with
    | x W => exact key (fits_benign hd (by intro W h; cases h)) (nilW_benign h he)
    | v => rw [show g = .v from he]; cases f <;> rfl
    | _ => exact key (fits_benign hd (by intro W h; cases h)) (fits_benign he (by intro W h; cases h))
  | r =>
    cases e with
    | x W => exact key (fits_benign hd (by intro W h; cases h)) (nilW_benign h he)
    | v => rw [show g = .v from he]; cases f <;> rfl
    | _ => exact key (fits_benign hd (by intro W h; cases h)) (fits_benign he (by intro W h; cases h))
  | l b =>
    cases e with
    | x W =>
      obtain ⟨w, rfl, hw⟩ := he
      rw [show f = .l b from hd]
      show (!memB b w) = true
      rw [memB_false fun hb => h (hw b hb)]; rfl
    | v => rw [show g = .v from he]; cases f <;> rfl
    | _ => exact key (fits_benign hd (by intro W h; cases h)) (fits_benign he (by intro W h; cases h))
  | x W =>
    cases e with
    | v => rw [show g = .v from he]; cases f <;> rfl
    | a => obtain ⟨b, rfl⟩ := he; obtain ⟨w, rfl, _⟩ := hd; rfl
    | r => exact key (nilW_benign h hd) he
    | l b =>
      obtain ⟨w, rfl, hw⟩ := hd
      rw [show g = .l b from he]
      show (!memB b w) = true
      rw [memB_false fun hb => h (hw b hb)]; rfl
    | x U => exact key (nilW_benign h.1 hd) (nilW_benign h.2 he)

def FsD : List (Nat × Inf) → List (Nat × ID) → Prop
  | [], [] => True
  | (j, g) :: fs, (i, d) :: D => j = i ∧ d.fits g ∧ FsD fs D
  | _, _ => False
def okD (ops : Array Oper) (i : Nat) (d : ID) : List (Nat × ID) → Prop
  | [] => True
  | (j, e) :: D => (ordered (ancOf ops) j i = true ∨ cD e d) ∧ okD ops i d D
theorem allCompat_D {ops : Array Oper} {i : Nat} {d : ID} {f : Inf} (hf : d.fits f) : ∀ {fs : List (Nat × Inf)} {D : List (Nat × ID)}, FsD fs D → okD ops i d D → allCompat (ancOf ops) i f fs = true
  | [], [], _, _ => rfl
  | (j, g) :: fs, (_, e) :: D, ⟨rfl, h2, h3⟩, ⟨h4, h5⟩ => by
    unfold allCompat
    rw [allCompat_D hf h3 h5, Bool.and_true]
    rcases h4 with h4 | h4
    · rw [h4]; rfl
    · rw [compat_of h2 hf h4, Bool.or_true]
  | [], _ :: _, h, _ => absurd h id
  | _ :: _, [], h, _ => absurd h id

section
variable {P : Program} {G : Nat} {K : Known} {sz : Nat} {Q : Ex → Fn → Heap → Prop} {ops : Array Oper} {D : List (Nat × ID)} {i : Nat} {os : List Oper} {k : List Fr} {f : Fn} {H H1 : Heap} {v : Value}
  {d : Tmp} {op : Op} {ty : TypeId} {pos : String} {af : Array Edge}
structure WF2 (P : Program) (G : Nat) (K : Known) (sz : Nat) (ops : Array Oper) (D : List (Nat × ID)) (i : Nat) (os : List Oper) (k : List Fr) (f : Fn) (H : Heap) (Q : Ex → Fn → Heap → Prop) : Prop where
  out : ∀ t fs, lget t = f → FsD fs D → ∃ n e s', runK P G K (n + 1) k (exRegion (runOpsD P G (call P G K n) ops i fs os ⟨t, sz, H⟩)) = some (e, s') ∧ Q e (lget s'.tmps) s'.heap
theorem wf_region {id : Nat} (hr : (regOK ops && P.follows .mixedOrders) = true) (h : WF2 P G K sz ops [] 0 ops.toList k f H Q) : WK P G K sz (.region id ops true) k f H Q := ⟨fun t ht => by
  obtain ⟨n, e, s', h1, h2⟩ := h.out t [] ht trivial
  refine ⟨n, e, s', ?_, h2⟩
  have : exec P G K (n + 1) (.region id ops true) ⟨t, sz, H⟩ = exRegion (runOpsD P G (call P G K n) ops 0 [] ops.toList ⟨t, sz, H⟩) := by
    show exRegion (runRegion P G (call P G K n) ops true ⟨t, sz, H⟩) = _
    unfold runRegion
    simp only [cond_true, hr]
  rw [this]; exact h1⟩
theorem wf_nil (h : WK P G K sz .skip k f H Q) : WF2 P G K sz ops D i [] k f H Q := ⟨fun t fs ht _ => by
  obtain ⟨n, e, s', h1, h2⟩ := h.out t ht
  exact ⟨n, e, s', by unfold runOpsD; exact h1, h2⟩⟩
/-- What the operation did, as far as it is known. -/
def Did (ops : Array Oper) (f : Fn) (o : Oper) (n : Nat) (log : List Nat) (d : ID) : Prop := ∀ t sz H, lget t = f → d.fits (infOf ops o ⟨t, sz, H⟩ n log)
theorem did_v {o : Oper} {n : Nat} {log : List Nat} (h : valueKind o.op = true) : Did ops f o n log .v := fun _ _ _ _ => infOf_value h
theorem did_a {o : Oper} {n : Nat} {log : List Nat} (hg : o.guard = none) (h1 : valueKind o.op = false) (h : newKind o.op = true) : Did ops f o n log .a := fun t sz H _ => by
  unfold infOf wantedL
  simp only [hg, Bool.not_true, h1, Bool.or_self, cond_false, h, cond_true]
  exact ⟨_, rfl⟩
theorem did_l {dd : Option Tmp} {lt : TypeId} {a : Operand} {n b o : Nat} {log : List Nat} (ha : aevF f a = .pointer (some ⟨b, o, none⟩)) : Did ops f ⟨dd, .load lt a, ty, pos, af, none⟩ n log (.l b) := fun t sz H ht => by
  have : aeval t a = .pointer (some ⟨b, o, none⟩) := by rw [aeval_fn, ht]; exact ha
  unfold infOf wantedL
  simp only [Bool.not_true, Bool.false_or, cond_false, newKind, valueKind, this]
  rfl
theorem mem_below' {n b : Nat} {l : List Nat} (h : b ∈ below n l) : b ∈ l ∧ b < n := by
  induction l with
  | nil => simp [below] at h
  | cons c l ih =>
    unfold below at h
    cases hb : Nat.ble n c with
    | true =>
      rw [hb] at h
      have := ih h
      exact ⟨List.mem_cons_of_mem _ this.1, this.2⟩
    | false =>
      rw [hb] at h
      rcases List.mem_cons.1 h with rfl | h
      · refine ⟨List.mem_cons_self .., ?_⟩
        rcases Nat.lt_or_ge b n with h1 | h1
        · exact h1
        · rw [Nat.ble_eq_true_of_le h1] at hb; cases hb
      · have := ih h
        exact ⟨List.mem_cons_of_mem _ this.1, this.2⟩
theorem did_r {o : Oper} {n : Nat} {log : List Nat} (h : ∀ b, b ∈ log → n ≤ b) : Did ops f o n log .r := fun t sz H _ => infOf_benign (below_nil h)
/-- Operations that are neither of a value nor a new block nor a look at one block. -/
def otherKind : Op → Bool
  | .load _ _ | .slice _ _ _ _ _ => false
  | o => !valueKind o && !newKind o
theorem did_x {o : Oper} {n : Nat} {log : List Nat} {W : List Nat} (hg : o.guard = none) (hk : otherKind o.op = true) (h : ∀ b, b ∈ log → n ≤ b ∨ b ∈ W) : Did ops f o n log (.x W) := fun t sz H _ => by
  have hv : valueKind o.op = false ∧ newKind o.op = false := by
    unfold otherKind at hk
    split at hk
    · cases hk
    · cases hk
    · simpa using hk
  refine ⟨below n log, ?_, fun b hb => ?_⟩
  · unfold infOf wantedL
    simp only [hg, Bool.not_true, hv.1, hv.2, Bool.or_self, cond_false]
    split
    · rename_i he; rw [he] at hk; cases hk
    · rename_i he; rw [he] at hk; cases hk
    · rfl
  · obtain ⟨h1, h2⟩ := mem_below' hb
    rcases h b h1 with h3 | h3
    · omega
    · exact h3

theorem wf_val {id : ID} (ha : AP P (aevF f) ⟨some d, op, ty, pos, af, none⟩ { H with log := [] } (.val v, H1)) (ho : op.operands.toList.all (opnOK G) = true) (hd : Nat.ble (d + 1) sz = true)
    (hid : Did ops f ⟨some d, op, ty, pos, af, none⟩ H.next H1.log id) (hok : okD ops i id D)
    (h : ∀ l, (∀ b, b ∈ l → b ∈ H1.log ∨ b ∈ H.log) → WF2 P G K sz ops ((i, id) :: D) (i + 1) os k (upd f d v) { H1 with log := l } Q) : WF2 P G K sz ops D i (⟨some d, op, ty, pos, af, none⟩ :: os) k f H Q := ⟨fun t fs ht hfs => by
  obtain ⟨t', h1, h2⟩ := step_val (P := P) (G := G) (ops := ops) (t := t) (sz := sz) (o := ⟨some d, op, ty, pos, af, none⟩) rfl ho (by rw [ht]; exact ha.eq) hd
  have hi := hid t sz H ht
  obtain ⟨n, e, s', h3, h4⟩ := (h (below H.next H1.log ++ H.log) (fun b hb => by
    rcases List.mem_append.1 hb with hb | hb
    · exact .inl (mem_below' hb).1
    · exact .inr hb)).out t' ((i, infOf ops ⟨some d, op, ty, pos, af, none⟩ ⟨t, sz, H⟩ H.next H1.log) :: fs) (by rw [h2, ht]; rfl) ⟨rfl, hi, hfs⟩
  refine ⟨n, e, s', ?_, h4⟩
  unfold runOpsD stepD
  rw [h1]
  simp only [allCompat_D hi hfs hok, cond_true]
  exact h3⟩
theorem wf_pure {id : ID} (ha : AP P (aevF f) ⟨some d, op, ty, pos, af, none⟩ { H with log := [] } (.val v, { H with log := [] })) (ho : op.operands.toList.all (opnOK G) = true) (hd : Nat.ble (d + 1) sz = true)
    (hid : Did ops f ⟨some d, op, ty, pos, af, none⟩ H.next [] id) (hok : okD ops i id D)
    (h : WF2 P G K sz ops ((i, id) :: D) (i + 1) os k (upd f d v) H Q) : WF2 P G K sz ops D i (⟨some d, op, ty, pos, af, none⟩ :: os) k f H Q := ⟨fun t fs ht hfs => by
  obtain ⟨t', h1, h2⟩ := step_val (P := P) (G := G) (ops := ops) (t := t) (sz := sz) (o := ⟨some d, op, ty, pos, af, none⟩) rfl ho (by rw [ht]; exact ha.eq) hd
  have hi := hid t sz H ht
  obtain ⟨n, e, s', h3, h4⟩ := h.out t' ((i, infOf ops ⟨some d, op, ty, pos, af, none⟩ ⟨t, sz, H⟩ H.next []) :: fs) (by rw [h2, ht]; rfl) ⟨rfl, hi, hfs⟩
  refine ⟨n, e, s', ?_, h4⟩
  unfold runOpsD stepD
  rw [h1]
  simp only [allCompat_D hi hfs hok, cond_true, below, List.nil_append]
  exact h3⟩
theorem wf_skip {id : ID} (ha : AP P (aevF f) ⟨none, op, ty, pos, af, none⟩ { H with log := [] } (.skip, H1)) (ho : op.operands.toList.all (opnOK G) = true)
    (hid : Did ops f ⟨none, op, ty, pos, af, none⟩ H.next H1.log id) (hok : okD ops i id D)
    (h : ∀ l, (∀ b, b ∈ l → b ∈ H1.log ∨ b ∈ H.log) → WF2 P G K sz ops ((i, id) :: D) (i + 1) os k f { H1 with log := l } Q) : WF2 P G K sz ops D i (⟨none, op, ty, pos, af, none⟩ :: os) k f H Q := ⟨fun t fs ht hfs => by
  obtain ⟨t', h1, h2⟩ := step_skip (P := P) (G := G) (ops := ops) (t := t) (sz := sz) (o := ⟨none, op, ty, pos, af, none⟩) rfl ho (by rw [ht]; exact ha.eq) rfl
  have hi := hid t sz H ht
  obtain ⟨n, e, s', h3, h4⟩ := (h (below H.next H1.log ++ H.log) (fun b hb => by
    rcases List.mem_append.1 hb with hb | hb
    · exact .inl (mem_below' hb).1
    · exact .inr hb)).out t' ((i, infOf ops ⟨none, op, ty, pos, af, none⟩ ⟨t, sz, H⟩ H.next H1.log) :: fs) (by rw [h2, ht]; rfl) ⟨rfl, hi, hfs⟩
  refine ⟨n, e, s', ?_, h4⟩
  unfold runOpsD stepD
  rw [h1]
  simp only [allCompat_D hi hfs hok, cond_true]
  exact h3⟩
theorem wf_call {W : List Nat} {g : FuncId} {args : List Value} {R : Value → Heap → Prop} (ha : AP P (aevF f) ⟨some d, op, ty, pos, af, none⟩ { H with log := [] } (.enter g args, { H with log := [] })) (ho : op.operands.toList.all (opnOK G) = true) (hd : Nat.ble (d + 1) sz = true) (hk : otherKind op = true)
    (hc : C P G K g args { H with log := [] } R) (hok : okD ops i (.x W) D)
    (h : ∀ v H2, R v H2 → (∀ b, b ∈ H2.log → H.next ≤ b ∨ b ∈ W) ∧ ∀ l, (∀ b, b ∈ l → b ∈ H2.log ∨ b ∈ H.log) → WF2 P G K sz ops ((i, .x W) :: D) (i + 1) os k (upd f d v) { H2 with log := l } Q) : WF2 P G K sz ops D i (⟨some d, op, ty, pos, af, none⟩ :: os) k f H Q := ⟨fun t fs ht hfs => by
  obtain ⟨n1, v, H2, hc1, hr⟩ := hc.out
  obtain ⟨hlog, h0⟩ := h v H2 hr
  obtain ⟨t', h1, h2⟩ := put_fn (s := ⟨t, sz, H2⟩) (d := some d) (v := v) hd
  have hi := did_x (ops := ops) (f := f) (o := ⟨some d, op, ty, pos, af, none⟩) rfl hk hlog t sz H ht
  obtain ⟨n2, e, s', h3, h4⟩ := (h0 (below H.next H2.log ++ H.log) (fun b hb => by
    rcases List.mem_append.1 hb with hb | hb
    · exact .inl (mem_below' hb).1
    · exact .inr hb)).out t' ((i, infOf ops ⟨some d, op, ty, pos, af, none⟩ ⟨t, sz, H⟩ H.next H2.log) :: fs) (by rw [h2, ht]; rfl) ⟨rfl, hi, hfs⟩
  refine ⟨Nat.max n1 n2, e, s', ?_, h4⟩
  have hst : step P G (call P G K (Nat.max n1 n2)) ops ⟨some d, op, ty, pos, af, none⟩ ⟨t, sz, { H with log := [] }⟩ = some ⟨t', sz, H2⟩ := by
    unfold step wantedL
    simp only [cond_true, ho, aeval_fn, ht, ha.eq, call_mono (Nat.le_max_left n1 n2) _ _ _ _ hc1]
    exact h1
  unfold runOpsD stepD
  rw [hst]
  simp only [allCompat_D hi hfs hok, cond_true]
  refine runK_mono (Nat.succ_le_succ (Nat.le_max_right n1 n2)) k _ _ (fun x hx => ?_) _ h3
  cases hq : runOpsD P G (call P G K n2) ops (i + 1) ((i, infOf ops ⟨some d, op, ty, pos, af, none⟩ ⟨t, sz, H⟩ H.next H2.log) :: fs) os ⟨t', sz, { H2 with log := below H.next H2.log ++ H.log }⟩ with
  | none => rw [hq] at hx; cases hx
  | some y =>
    have := runOpsD_mono (call_mono (P := P) (G := G) (K := K) (Nat.le_max_right n1 n2)) _ _ _ _ _ hq
    rw [hq] at hx
    rw [this]; exact hx⟩
/-! Guards in such a region. -/
theorem inf_guard {t : Tr Value} {v want : Bool} {j : Nat} {dd : Option Tmp} (ht : lget t = f) (hy : yieldF ops f j = some v) (hv : v = want) (sz : Nat) (H : Heap) (n : Nat) (log : List Nat) :
    infOf ops ⟨dd, op, ty, pos, af, some (j, want)⟩ ⟨t, sz, H⟩ n log = infOf ops ⟨dd, op, ty, pos, af, none⟩ ⟨t, sz, H⟩ n log := by
  have h1 : wantedL ops ⟨dd, op, ty, pos, af, some (j, want)⟩ t = true := by rw [wanted_fn ht hy _ rfl, hv]; cases want <;> rfl
  have h2 : wantedL ops ⟨dd, op, ty, pos, af, none⟩ t = true := rfl
  unfold infOf
  simp only [h1, h2]
theorem wf_gt {v want : Bool} {j : Nat} {dd : Option Tmp} (hy : yieldF ops f j = some v) (hv : v = want) (h : WF2 P G K sz ops D i (⟨dd, op, ty, pos, af, none⟩ :: os) k f H Q) : WF2 P G K sz ops D i (⟨dd, op, ty, pos, af, some (j, want)⟩ :: os) k f H Q := ⟨fun t fs ht hfs => by
  obtain ⟨n, e, s', h1, h2⟩ := h.out t fs ht hfs
  refine ⟨n, e, s', ?_, h2⟩
  unfold runOpsD stepD at h1 ⊢
  rw [step_guard ht hy hv]
  cases hq : step P G (call P G K n) ops ⟨dd, op, ty, pos, af, none⟩ ⟨t, sz, { H with log := [] }⟩ with
  | none => rw [hq] at h1; exact h1
  | some s1 =>
    rw [hq] at h1
    simp only [inf_guard ht hy hv]
    exact h1⟩
theorem wf_unwanted {want : Bool} {j : Nat} (hw : ∀ t, lget t = f → wantedL ops ⟨some d, op, ty, pos, af, some (j, want)⟩ t = false) (hd : Nat.ble (d + 1) sz = true)
    (h : WF2 P G K sz ops ((i, .v) :: D) (i + 1) os k (upd f d undef) H Q) : WF2 P G K sz ops D i (⟨some d, op, ty, pos, af, some (j, want)⟩ :: os) k f H Q := ⟨fun t fs ht hfs => by
  obtain ⟨t', h3, h4⟩ := put_fn (s := ⟨t, sz, { H with log := [] }⟩) (d := some d) (v := undef) hd
  have hw1 := hw t ht
  have hi : infOf ops ⟨some d, op, ty, pos, af, some (j, want)⟩ ⟨t, sz, H⟩ H.next [] = .v := by
    unfold infOf
    simp only [hw1, Bool.not_false, Bool.true_or, cond_true]
  obtain ⟨n, e, s', h1, h2⟩ := h.out t' ((i, .v) :: fs) (by rw [h4, ht]; rfl) ⟨rfl, rfl, hfs⟩
  refine ⟨n, e, s', ?_, h2⟩
  have hst : step P G (call P G K n) ops ⟨some d, op, ty, pos, af, some (j, want)⟩ ⟨t, sz, { H with log := [] }⟩ = some ⟨t', sz, { H with log := [] }⟩ := by
    unfold step
    simp only [hw1, cond_false]
    exact h3
  have hc : allCompat (ancOf ops) i .v fs = true := allCompat_of fun j g _ => by cases g <;> simp [compat]
  unfold runOpsD stepD
  rw [hst]
  simp only [hi, hc, cond_true, below, List.nil_append]
  exact h1⟩
theorem wf_gf {v want : Bool} {j : Nat} (hy : yieldF ops f j = some v) (hv : v = !want) (hd : Nat.ble (d + 1) sz = true) (h : WF2 P G K sz ops ((i, .v) :: D) (i + 1) os k (upd f d undef) H Q) :
    WF2 P G K sz ops D i (⟨some d, op, ty, pos, af, some (j, want)⟩ :: os) k f H Q :=
  wf_unwanted (fun t ht => by rw [wanted_fn ht hy _ rfl, hv]; cases want <;> rfl) hd h
theorem wf_gn {want : Bool} {j : Nat} (hy : yieldF ops f j = none) (hd : Nat.ble (d + 1) sz = true) (h : WF2 P G K sz ops ((i, .v) :: D) (i + 1) os k (upd f d undef) H Q) :
    WF2 P G K sz ops D i (⟨some d, op, ty, pos, af, some (j, want)⟩ :: os) k f H Q :=
  wf_unwanted (fun t ht => by
    unfold wantedL
    have : yieldL ops t j = none := by rw [← hy, ← ht]; rfl
    simp only [this]
    cases want <;> rfl) hd h
theorem wf_gsT {v : Bool} {j : Nat} (hy : yieldF ops f j = some v) (hd : Nat.ble (d + 1) sz = true) (h1 : v = true → WF2 P G K sz ops D i (⟨some d, op, ty, pos, af, none⟩ :: os) k f H Q) (h2 : v = false → WF2 P G K sz ops ((i, .v) :: D) (i + 1) os k (upd f d undef) H Q) :
    WF2 P G K sz ops D i (⟨some d, op, ty, pos, af, some (j, true)⟩ :: os) k f H Q := by
  cases v with
  | true => exact wf_gt hy rfl (h1 rfl)
  | false => exact wf_gf hy rfl hd (h2 rfl)
theorem wf_gsF {v : Bool} {j : Nat} (hy : yieldF ops f j = some v) (hd : Nat.ble (d + 1) sz = true) (h1 : v = false → WF2 P G K sz ops D i (⟨some d, op, ty, pos, af, none⟩ :: os) k f H Q) (h2 : v = true → WF2 P G K sz ops ((i, .v) :: D) (i + 1) os k (upd f d undef) H Q) :
    WF2 P G K sz ops D i (⟨some d, op, ty, pos, af, some (j, false)⟩ :: os) k f H Q := by
  cases v with
  | true => exact wf_gf hy rfl hd (h2 rfl)
  | false => exact wf_gt hy rfl (h1 rfl)
end
end Go.R
end
