/-
  Heap assertions over the evaluator's heap: frozen blocks, owned blocks, slices and structs that stand for lists and records.
  No condition beyond those that each statement names.
-/
import Derived.Test.YtcakpkdeojhacaaRxG
noncomputable section
namespace Go.R

abbrev Fz := Nat → Option AObj
abbrev Fp := List (Nat × AObj)
def Fz.le (F F' : Fz) : Prop := ∀ b o, F b = some o → F' b = some o
theorem Fz.le_refl (F : Fz) : F.le F := fun _ _ h => h
theorem Fz.le_trans {A B C : Fz} (h : A.le B) (k : B.le C) : A.le C := fun b o x => k b o (h b o x)
def Fz.add (F : Fz) (b : Nat) (o : AObj) : Fz := fun j => bif Nat.beq b j then some o else F j
def Fz.addL (F : Fz) : Fp → Fz
  | [] => F
  | (b, o) :: p => (F.addL p).add b o

abbrev in64 (n : Int) : Prop := -9223372036854775808 ≤ n ∧ n < 9223372036854775808

/-- What may have been written since a function began: its new blocks, and W. -/
structure Base where
  n0 : Nat
  W : List Nat
  lg : List Nat
def Base.of (H : Heap) (W : List Nat) : Base := ⟨H.next, W, H.log⟩

/-- F: frozen; L: owned blocks, by owner; R: the callers' blocks, untouched. -/
structure HS (B : Base) (F : Fz) (H : Heap) (L R : List Fp) : Prop where
  fz : ∀ b o, F b = some o → H.get b = some o ∧ b < H.next
  own : ∀ p, p ∈ L ∨ p ∈ R → ∀ b o, (b, o) ∈ p → H.get b = some o ∧ b < H.next ∧ F b = none
  nd : ((L ++ R).flatten.map Prod.fst).Nodup
  n0 : B.n0 ≤ H.next
  log : ∀ b, b ∈ H.log → b ∈ B.lg ∨ B.n0 ≤ b ∨ b ∈ B.W
  mine : ∀ p, p ∈ L → ∀ b o, (b, o) ∈ p → B.n0 ≤ b ∨ b ∈ B.W

/-! Lists. -/
theorem flat_sets {α : Type} : ∀ (L : List (List α)) (i : Nat) (p : List α), L[i]? = some p → ∃ A C, L = A ++ p :: C ∧ ∀ q, L.set i q = A ++ q :: C
  | [], _, _, h => by simp at h
  | x :: L, 0, p, h => by simp at h; subst h; exact ⟨[], L, rfl, fun _ => rfl⟩
  | x :: L, i + 1, p, h => by
    obtain ⟨A, C, h1, h2⟩ := flat_sets L i p (by simpa using h)
    exact ⟨x :: A, C, by rw [h1]; rfl, fun q => by rw [List.set_cons_succ, h2]; rfl⟩
theorem flat_set {α : Type} (L : List (List α)) (i : Nat) (p q : List α) (h : L[i]? = some p) : ∃ A C, L = A ++ p :: C ∧ L.set i q = A ++ q :: C := by
  obtain ⟨A, C, h1, h2⟩ := flat_sets L i p h
  exact ⟨A, C, h1, h2 q⟩

section
variable {B : Base} {F F' : Fz} {H H' : Heap} {L R : List Fp}

theorem HS.relog (h : HS B F H L R) {l : List Nat} (hl : ∀ b, b ∈ l → b ∈ B.lg ∨ B.n0 ≤ b ∨ b ∈ B.W) : HS B F { H with log := l } L R := ⟨h.fz, h.own, h.nd, h.n0, hl, h.mine⟩
theorem HS.log0 (h : HS B F H L R) : HS B F { H with log := [] } L R := h.relog fun b hb => by simp at hb

/-- One owner's blocks are turned to other blocks, with new addresses or of his own. -/
theorem HS.turn (h : HS B F H L R) {i : Nat} {p q : Fp} (hi : L[i]? = some p) (hn : H.next ≤ H'.next)
    (hget : ∀ b, b < H.next → (∀ o, (b, o) ∉ p) → H'.get b = H.get b)
    (hq : ∀ b o, (b, o) ∈ q → H'.get b = some o ∧ b < H'.next ∧ (H.next ≤ b ∨ ∃ o', (b, o') ∈ p)) (hnd : (q.map Prod.fst).Nodup)
    (hlog : ∀ b, b ∈ H'.log → b ∈ H.log ∨ H.next ≤ b ∨ ∃ o, (b, o) ∈ p) : HS B F H' (L.set i q) R := by
  obtain ⟨A, C, e1, e2⟩ := flat_set L i p q hi
  have hpL : p ∈ L := List.mem_of_getElem? hi
  have hnodup := h.nd
  rw [e1] at hnodup
  have hmem : ∀ x, x ∈ L.set i q ∨ x ∈ R → x = q ∨ ((x ∈ L ∨ x ∈ R) ∧ ∀ b o o', (b, o) ∈ x → (b, o') ∉ p) := by
    intro x hx
    have key : ∀ x, x ∈ A ∨ x ∈ C ∨ x ∈ R → ∀ b o o', (b, o) ∈ x → (b, o') ∉ p := by
      intro x hx b o o' hb hb'
      simp only [List.append_assoc, List.cons_append, List.flatten_append, List.flatten_cons, List.map_append, List.nodup_append, List.mem_append] at hnodup
      have hp' : b ∈ p.map Prod.fst := List.mem_map.2 ⟨_, hb', rfl⟩
      have hx' : b ∈ x.map Prod.fst := List.mem_map.2 ⟨_, hb, rfl⟩
      rcases hx with hx | hx | hx
      · have : b ∈ A.flatten.map Prod.fst := List.mem_map.2 ⟨(b, o), List.mem_flatten.2 ⟨x, hx, hb⟩, rfl⟩
        exact hnodup.2.2 b this b (.inl hp') rfl
      · have : b ∈ C.flatten.map Prod.fst := List.mem_map.2 ⟨(b, o), List.mem_flatten.2 ⟨x, hx, hb⟩, rfl⟩
        exact hnodup.2.1.2.2 b hp' b (.inl this) rfl
      · have : b ∈ R.flatten.map Prod.fst := List.mem_map.2 ⟨(b, o), List.mem_flatten.2 ⟨x, hx, hb⟩, rfl⟩
        exact hnodup.2.1.2.2 b hp' b (.inr this) rfl
    rw [e2] at hx
    rcases hx with hx | hx
    · rcases List.mem_append.1 hx with hx | hx
      · exact .inr ⟨.inl (by rw [e1]; exact List.mem_append.2 (.inl hx)), key x (.inl hx)⟩
      · rcases List.mem_cons.1 hx with rfl | hx
        · exact .inl rfl
        · exact .inr ⟨.inl (by rw [e1]; exact List.mem_append.2 (.inr (List.mem_cons_of_mem _ hx))), key x (.inr (.inl hx))⟩
    · exact .inr ⟨.inr hx, key x (.inr (.inr hx))⟩
  have hFp : ∀ b o, (b, o) ∈ p → F b = none ∧ b < H.next := fun b o hb => ⟨(h.own p (.inl hpL) b o hb).2.2, (h.own p (.inl hpL) b o hb).2.1⟩
  refine ⟨fun b o hb => ?_, fun x hx b o hb => ?_, ?_, Nat.le_trans h.n0 hn, fun b hb => ?_, fun x hx b o hb => ?_⟩
  · obtain ⟨h1, h2⟩ := h.fz b o hb
    refine ⟨?_, Nat.lt_of_lt_of_le h2 hn⟩
    rw [hget b h2 fun o' ho' => by rw [(hFp b o' ho').1] at hb; cases hb]; exact h1
  · rcases hmem x hx with rfl | ⟨hx', hne⟩
    · obtain ⟨h1, h2, h3⟩ := hq b o hb
      refine ⟨h1, h2, ?_⟩
      rcases h3 with h3 | ⟨o', ho'⟩
      · cases hf : F b with
        | none => rfl
        | some z => have := (h.fz b z hf).2; omega
      · exact (hFp b o' ho').1
    · obtain ⟨h1, h2, h3⟩ := h.own x hx' b o hb
      exact ⟨by rw [hget b h2 fun o' => hne b o o' hb]; exact h1, Nat.lt_of_lt_of_le h2 hn, h3⟩
  · rw [e2]
    have hlt : ∀ x, x ∈ A ∨ x ∈ C ∨ x ∈ R → ∀ b, b ∈ x.map Prod.fst → b < H.next ∧ ∀ o', (b, o') ∉ p := by
      intro x hx b hb
      obtain ⟨⟨b', o⟩, hb', rfl⟩ := List.mem_map.1 hb
      have hx2 : x ∈ L.set i q ∨ x ∈ R := by
        rw [e2]
        rcases hx with hx | hx | hx
        · exact .inl (List.mem_append.2 (.inl hx))
        · exact .inl (List.mem_append.2 (.inr (List.mem_cons_of_mem _ hx)))
        · exact .inr hx
      have hxL : x ∈ L ∨ x ∈ R := by
        rw [e1]
        rcases hx with hx | hx | hx
        · exact .inl (List.mem_append.2 (.inl hx))
        · exact .inl (List.mem_append.2 (.inr (List.mem_cons_of_mem _ hx)))
        · exact .inr hx
      refine ⟨(h.own x hxL b' o hb').2.1, fun o' ho' => ?_⟩
      have hnd2 := hnodup
      simp only [List.append_assoc, List.cons_append, List.flatten_append, List.flatten_cons, List.map_append, List.nodup_append, List.mem_append] at hnd2
      have hp' : b' ∈ p.map Prod.fst := List.mem_map.2 ⟨_, ho', rfl⟩
      rcases hx with hx | hx | hx
      · exact hnd2.2.2 b' (List.mem_map.2 ⟨(b', o), List.mem_flatten.2 ⟨x, hx, hb'⟩, rfl⟩) b' (.inl hp') rfl
      · exact hnd2.2.1.2.2 b' hp' b' (.inl (List.mem_map.2 ⟨(b', o), List.mem_flatten.2 ⟨x, hx, hb'⟩, rfl⟩)) rfl
      · exact hnd2.2.1.2.2 b' hp' b' (.inr (List.mem_map.2 ⟨(b', o), List.mem_flatten.2 ⟨x, hx, hb'⟩, rfl⟩)) rfl
    have hfl : ∀ (X : List Fp) b, b ∈ X.flatten.map Prod.fst → ∃ x, x ∈ X ∧ b ∈ x.map Prod.fst := by
      intro X b hb
      obtain ⟨y, hy, rfl⟩ := List.mem_map.1 hb
      obtain ⟨x, hx, hyx⟩ := List.mem_flatten.1 hy
      exact ⟨x, hx, List.mem_map.2 ⟨y, hyx, rfl⟩⟩
    have hqf : ∀ b, b ∈ q.map Prod.fst → H.next ≤ b ∨ ∃ o', (b, o') ∈ p := by
      intro b hb
      obtain ⟨⟨b', o⟩, hb', rfl⟩ := List.mem_map.1 hb
      exact (hq b' o hb').2.2
    simp only [List.append_assoc, List.cons_append, List.flatten_append, List.flatten_cons, List.map_append, List.nodup_append, List.mem_append] at hnodup ⊢
    obtain ⟨n1, ⟨n2, ⟨n3, n4, n5⟩, n6⟩, n7⟩ := hnodup
    refine ⟨n1, ⟨hnd, ⟨n3, n4, n5⟩, fun a ha b hb hab => ?_⟩, fun a ha b hb hab => ?_⟩
    · subst hab
      have hx : ∃ x, (x ∈ A ∨ x ∈ C ∨ x ∈ R) ∧ a ∈ x.map Prod.fst := by
        rcases hb with hb | hb
        · obtain ⟨x, hx, h1⟩ := hfl C a hb; exact ⟨x, .inr (.inl hx), h1⟩
        · obtain ⟨x, hx, h1⟩ := hfl R a hb; exact ⟨x, .inr (.inr hx), h1⟩
      obtain ⟨x, hx, h1⟩ := hx
      obtain ⟨h2, h3⟩ := hlt x hx a h1
      rcases hqf a ha with h4 | ⟨o', h4⟩
      · omega
      · exact h3 o' h4
    · subst hab
      rcases hb with hb | hb
      · obtain ⟨x, hx, h1⟩ := hfl A a ha
        obtain ⟨h2, h3⟩ := hlt x (.inl hx) a h1
        rcases hqf a hb with h4 | ⟨o', h4⟩
        · omega
        · exact h3 o' h4
      · exact n7 a ha a (.inr hb) rfl
  · rcases hlog b hb with h1 | h1 | ⟨o, h1⟩
    · exact h.log b h1
    · exact .inr (.inl (Nat.le_trans h.n0 h1))
    · exact .inr (h.mine p hpL b o h1)
  · have hx2 := hmem x (.inl hx)
    rcases hx2 with rfl | ⟨_, _⟩
    · rcases (hq b o hb).2.2 with h3 | ⟨o', h3⟩
      · exact .inl (Nat.le_trans h.n0 h3)
      · exact h.mine p hpL b o' h3
    · rw [e2] at hx
      rcases List.mem_append.1 hx with hx | hx
      · exact h.mine x (by rw [e1]; exact List.mem_append.2 (.inl hx)) b o hb
      · rcases List.mem_cons.1 hx with rfl | hx
        · rcases (hq b o hb).2.2 with h3 | ⟨o', h3⟩
          · exact .inl (Nat.le_trans h.n0 h3)
          · exact h.mine p hpL b o' h3
        · exact h.mine x (by rw [e1]; exact List.mem_append.2 (.inr (List.mem_cons_of_mem _ hx))) b o hb

/-- A new owner without blocks. -/
theorem HS.cons (h : HS B F H L R) : HS B F H ([] :: L) R :=
  ⟨h.fz, fun p hp b o hb => by
    rcases hp with hp | hp
    · rcases List.mem_cons.1 hp with rfl | hp
      · simp at hb
      · exact h.own p (.inl hp) b o hb
    · exact h.own p (.inr hp) b o hb, by simpa using h.nd, h.n0, h.log, fun p hp b o hb => by
    rcases List.mem_cons.1 hp with rfl | hp
    · simp at hb
    · exact h.mine p hp b o hb⟩
theorem HS.snoc (h : HS B F H L R) : HS B F H (L ++ [[]]) R :=
  ⟨h.fz, fun p hp b o hb => by
    rcases hp with hp | hp
    · rcases List.mem_append.1 hp with hp | hp
      · exact h.own p (.inl hp) b o hb
      · simp at hp; subst hp; simp at hb
    · exact h.own p (.inr hp) b o hb, by simpa using h.nd, h.n0, h.log, fun p hp b o hb => by
    rcases List.mem_append.1 hp with hp | hp
    · exact h.mine p hp b o hb
    · simp at hp; subst hp; simp at hb⟩
/-- A new block. -/
theorem HS.push (h : HS B F H L R) (o : AObj) : HS B F (H.push o) (L ++ [[(H.next, o)]]) R := by
  have h1 := (h.snoc).turn (H' := H.push o) (i := L.length) (p := []) (q := [(H.next, o)]) (by simp) (by simp)
    (fun b hb _ => Heap.get_push_ne _ _ (by omega)) (fun b o' hb => by
      simp at hb; obtain ⟨rfl, rfl⟩ := hb
      exact ⟨Heap.get_push_same _ _, by simp, .inl (Nat.le_refl _)⟩) (by simp) (fun b hb => .inl (by simpa using hb))
  simpa using h1
/-- A block is written. -/
theorem HS.put (h : HS B F H L R) {i b : Nat} {o o' : AObj} (hi : L[i]? = some [(b, o)]) : HS B F (H.put b o') (L.set i [(b, o')]) R :=
  h.turn hi (by simp) (fun c _ hne => Heap.get_put_ne _ _ fun e => hne o (by simp [e])) (fun c o2 hb => by
    simp at hb; obtain ⟨rfl, rfl⟩ := hb
    have := (h.own _ (.inl (List.mem_of_getElem? hi)) c o (by simp)).2.1
    exact ⟨Heap.get_put_same _ _ _, by simpa using this, .inr ⟨o, by simp⟩⟩) (by simp) (fun c hc => by
    rw [Heap.log_put] at hc
    rcases List.mem_cons.1 hc with rfl | hc
    · exact .inr (.inr ⟨o, by simp⟩)
    · exact .inl hc)
theorem HS.get (h : HS B F H L R) {i b : Nat} {p : Fp} {o : AObj} (hi : L[i]? = some p) (hb : (b, o) ∈ p) : H.get b = some o := (h.own p (.inl (List.mem_of_getElem? hi)) b o hb).1
/-- An owner gives up his blocks. -/
theorem HS.drop (h : HS B F H L R) {i : Nat} {p : Fp} (hi : L[i]? = some p) : HS B F H (L.set i []) R :=
  h.turn hi (Nat.le_refl _) (fun _ _ _ => rfl) (fun b o hb => by simp at hb) (by simp) (fun b hb => .inl hb)
theorem addL_get {p : Fp} : ∀ {b : Nat} {o : AObj}, (F.addL p) b = some o → F b = some o ∨ (b, o) ∈ p := by
  induction p with
  | nil => intro b o h; exact .inl h
  | cons x p ih =>
    obtain ⟨b0, o0⟩ := x
    intro b o h
    simp only [Fz.addL, Fz.add] at h
    cases hb : Nat.beq b0 b with
    | true =>
      rw [hb] at h; simp only [cond_true, Option.some.injEq] at h; subst h
      have := Nat.eq_of_beq_eq_true hb; subst this
      exact .inr (by simp)
    | false =>
      rw [hb] at h
      rcases ih h with h1 | h1
      · exact .inl h1
      · exact .inr (List.mem_cons_of_mem _ h1)
theorem addL_of {p : Fp} : ∀ {b : Nat} {o : AObj}, (p.map Prod.fst).Nodup → (b, o) ∈ p → (F.addL p) b = some o := by
  induction p with
  | nil => intro b o _ h; simp at h
  | cons x p ih =>
    obtain ⟨b0, o0⟩ := x
    intro b o hn h
    simp only [List.map_cons, List.nodup_cons] at hn
    simp only [Fz.addL, Fz.add]
    rcases List.mem_cons.1 h with e | h
    · injection e with e1 e2; subst e1 e2; rw [Nat.beq_refl]; rfl
    · have hne : Nat.beq b0 b = false := by
        cases hb : Nat.beq b0 b with
        | false => rfl
        | true => have := Nat.eq_of_beq_eq_true hb; subst this; exact absurd (List.mem_map.2 ⟨_, h, rfl⟩) hn.1
      rw [hne]; exact ih hn.2 h
theorem addL_le {p : Fp} (h : ∀ b o, (b, o) ∈ p → F b = none) : F.le (F.addL p) := by
  induction p with
  | nil => exact F.le_refl
  | cons x p ih =>
    obtain ⟨b0, o0⟩ := x
    intro b o hb
    have h1 := ih (fun b o hm => h b o (List.mem_cons_of_mem _ hm)) b o hb
    simp only [Fz.addL, Fz.add]
    cases hq : Nat.beq b0 b with
    | false => exact h1
    | true =>
      have := Nat.eq_of_beq_eq_true hq; subst this
      rw [h b0 o0 (by simp)] at hb; cases hb
theorem HS.nodup_of (h : HS B F H L R) {p : Fp} (hp : p ∈ L) : (p.map Prod.fst).Nodup := by
  have := h.nd
  obtain ⟨A, C, rfl⟩ := List.append_of_mem hp
  simp only [List.append_assoc, List.cons_append, List.flatten_append, List.flatten_cons, List.map_append, List.nodup_append] at this
  exact this.2.1.1
/-- An owner's blocks are frozen. -/
theorem HS.freeze (h : HS B F H L R) {i : Nat} {p : Fp} (hi : L[i]? = some p) : ∃ F', F.le F' ∧ HS B F' H (L.set i []) R ∧ ∀ b o, (b, o) ∈ p → F' b = some o := by
  have hpL : p ∈ L := List.mem_of_getElem? hi
  have hle := addL_le (F := F) (p := p) fun b o hb => (h.own p (.inl hpL) b o hb).2.2
  have hd := h.drop hi
  have hnd := h.nodup_of hpL
  refine ⟨F.addL p, hle, ⟨fun b o hb => ?_, fun x hx b o hb => ?_, hd.nd, hd.n0, hd.log, hd.mine⟩, fun b o hb => addL_of hnd hb⟩
  · rcases addL_get hb with h1 | h1
    · exact h.fz b o h1
    · have := h.own p (.inl hpL) b o h1; exact ⟨this.1, this.2.1⟩
  · obtain ⟨h1, h2, h3⟩ := hd.own x hx b o hb
    refine ⟨h1, h2, ?_⟩
    cases hq : F.addL p b with
    | none => rfl
    | some z =>
      exfalso
      rcases addL_get hq with h4 | h4
      · rw [h3] at h4; cases h4
      · -- disjoint
        obtain ⟨A, C, e1, e2⟩ := flat_set L i p [] hi
        have hn := h.nd
        rw [e1] at hn
        simp only [List.append_assoc, List.cons_append, List.flatten_append, List.flatten_cons, List.map_append, List.nodup_append, List.mem_append] at hn
        have hp' : b ∈ p.map Prod.fst := List.mem_map.2 ⟨_, h4, rfl⟩
        rcases hx with hx | hx
        · rw [e2] at hx
          rcases List.mem_append.1 hx with hx | hx
          · exact hn.2.2 b (List.mem_map.2 ⟨(b, o), List.mem_flatten.2 ⟨x, hx, hb⟩, rfl⟩) b (.inl hp') rfl
          · rcases List.mem_cons.1 hx with rfl | hx
            · simp at hb
            · exact hn.2.1.2.2 b hp' b (.inl (List.mem_map.2 ⟨(b, o), List.mem_flatten.2 ⟨x, hx, hb⟩, rfl⟩)) rfl
        · exact hn.2.1.2.2 b hp' b (.inr (List.mem_map.2 ⟨(b, o), List.mem_flatten.2 ⟨x, hx, hb⟩, rfl⟩)) rfl

/-- Into a call that owns nothing. -/
theorem HS.call (h : HS B F H L R) : HS (.of H []) F H [] (L ++ R) :=
  ⟨h.fz, fun p hp b o hb => by
    rcases hp with hp | hp
    · simp at hp
    · exact h.own p (List.mem_append.1 hp) b o hb, by simpa using h.nd, Nat.le_refl _, fun b hb => .inl hb, fun p hp => by simp at hp⟩
/-- Back from a call that owned nothing and gives nothing. -/
theorem HS.back {M : List Fp} {H0 : Heap} (h : HS B F H L R) (hH : H0 = H) (k : HS (.of H0 []) F' H' M (L ++ R)) : HS B F' H' (L ++ M) R := by
  subst hH
  refine ⟨k.fz, fun p hp b o hb => k.own p ?_ b o hb, ?_, Nat.le_trans h.n0 k.n0, fun b hb => ?_, fun p hp b o hb => ?_⟩
  · rcases hp with hp | hp
    · rcases List.mem_append.1 hp with hp | hp
      · exact .inr (List.mem_append.2 (.inl hp))
      · exact .inl hp
    · exact .inr (List.mem_append.2 (.inr hp))
  · have := k.nd
    have hperm : ((L ++ M ++ R).flatten.map Prod.fst).Perm ((M ++ (L ++ R)).flatten.map Prod.fst) := by
      simp only [List.flatten_append, List.map_append, List.append_assoc]
      exact List.perm_append_comm_assoc _ _ _
    exact hperm.nodup_iff.2 this
  · rcases k.log b hb with h1 | h1 | h1
    · exact h.log b h1
    · exact .inr (.inl (Nat.le_trans h.n0 h1))
    · simp [Base.of] at h1
  · rcases List.mem_append.1 hp with hp | hp
    · exact h.mine p hp b o hb
    · rcases k.mine p hp b o hb with h1 | h1
      · exact .inl (Nat.le_trans h.n0 h1)
      · simp [Base.of] at h1
theorem HS.back0 {H0 : Heap} (h : HS B F H L R) (hH : H0 = H) (k : HS (.of H0 []) F' H' [] (L ++ R)) : HS B F' H' L R := by
  have := h.back hH k; simpa using this
/-- An owner in front of the others' rest: for a call that takes him over. -/
theorem HS.callOwn (h : HS B F H L R) {i : Nat} {p : Fp} (hi : L[i]? = some p) : HS (.of H (p.map Prod.fst)) F H [p] (L.set i [] ++ R) := by
  obtain ⟨A, C, e1, e2⟩ := flat_set L i p [] hi
  have hpL : p ∈ L := List.mem_of_getElem? hi
  refine ⟨h.fz, fun x hx b o hb => ?_, ?_, Nat.le_refl _, fun b hb => .inl hb, fun x hx b o hb => ?_⟩
  · rcases hx with hx | hx
    · simp at hx; subst hx; exact h.own x (.inl hpL) b o hb
    · rw [e2] at hx
      simp only [List.append_assoc, List.cons_append, List.mem_append, List.mem_cons] at hx
      rcases hx with hx | rfl | hx | hx
      · exact h.own x (.inl (by rw [e1]; simp [hx])) b o hb
      · simp at hb
      · exact h.own x (.inl (by rw [e1]; simp [hx])) b o hb
      · exact h.own x (.inr hx) b o hb
  · have := h.nd
    rw [e1] at this
    rw [e2]
    have hperm : (([p] ++ (A ++ [] :: C ++ R)).flatten.map Prod.fst).Perm ((A ++ p :: C ++ R).flatten.map Prod.fst) := by
      simp only [List.flatten_append, List.flatten_cons, List.flatten_nil, List.append_nil, List.nil_append, List.map_append, List.append_assoc]
      exact List.perm_append_comm_assoc _ _ _
    exact hperm.nodup_iff.2 this
  · simp at hx; subst hx
    exact .inr (List.mem_map.2 ⟨_, hb, rfl⟩)
theorem HS.backOwn {H0 : Heap} {W : List Nat} {p q : Fp} {M : List Fp} (h : HS B F H L R) {i : Nat} (hi : L[i]? = some p) (hH : H0 = H) (hW : ∀ b, b ∈ W → b ∈ p.map Prod.fst) (k : HS (.of H0 W) F' H' (q :: M) (L.set i [] ++ R)) : HS B F' H' (L.set i q ++ M) R := by
  subst hH
  obtain ⟨A, C, e1, e2⟩ := flat_sets L i p hi
  have hpL : p ∈ L := List.mem_of_getElem? hi
  have hWm : ∀ b, b ∈ W → B.n0 ≤ b ∨ b ∈ B.W := fun b hb => by
    obtain ⟨⟨b', o⟩, hb', rfl⟩ := List.mem_map.1 (hW b hb)
    exact h.mine p hpL b' o hb'
  have hin : ∀ x, x ∈ A ++ q :: C ++ M ∨ x ∈ R → x ∈ q :: M ∨ x ∈ A ++ [] :: C ++ R := by
    intro x hx
    simp only [List.append_assoc, List.cons_append, List.mem_append, List.mem_cons] at hx ⊢
    rcases hx with (hx | hx | hx | hx) | hx
    · exact .inr (.inl hx)
    · exact .inl (.inl hx)
    · exact .inr (.inr (.inr (.inl hx)))
    · exact .inl (.inr hx)
    · exact .inr (.inr (.inr (.inr hx)))
  have hmk : ∀ x, x ∈ q :: M → ∀ b o, (b, o) ∈ x → B.n0 ≤ b ∨ b ∈ B.W := fun x hx b o hb => by
    rcases k.mine x hx b o hb with h1 | h1
    · exact .inl (Nat.le_trans h.n0 h1)
    · exact hWm b h1
  rw [e2] at k ⊢
  refine ⟨k.fz, fun x hx b o hb => k.own x (hin x hx) b o hb, ?_, Nat.le_trans h.n0 k.n0, fun b hb => ?_, fun x hx b o hb => ?_⟩
  · have := k.nd
    have hperm : ((A ++ q :: C ++ M ++ R).flatten.map Prod.fst).Perm ((q :: M ++ (A ++ [] :: C ++ R)).flatten.map Prod.fst) := by
      simp only [List.flatten_append, List.flatten_cons, List.flatten_nil, List.nil_append, List.map_append, List.append_assoc, List.cons_append]
      have h1 : ∀ (a c m q r : List Nat), (a ++ (q ++ (c ++ (m ++ r)))).Perm (q ++ (m ++ (a ++ (c ++ r)))) := by
        intro a c m q r
        refine List.Perm.trans (List.perm_append_comm_assoc a q _) (List.Perm.append_left q ?_)
        refine List.Perm.trans (List.Perm.append_left a (List.perm_append_comm_assoc c m r)) ?_
        exact List.perm_append_comm_assoc a m _
      exact h1 _ _ _ _ _
    exact hperm.nodup_iff.2 this
  · rcases k.log b hb with h1 | h1 | h1
    · exact h.log b h1
    · exact .inr (.inl (Nat.le_trans h.n0 h1))
    · exact .inr (hWm b h1)
  · simp only [List.append_assoc, List.cons_append, List.mem_append, List.mem_cons] at hx
    rcases hx with hx | rfl | hx | hx
    · exact h.mine x (by rw [e1]; simp [hx]) b o hb
    · exact hmk x (by simp) b o hb
    · exact h.mine x (by rw [e1]; simp [hx]) b o hb
    · exact hmk x (by simp [hx]) b o hb
end
end Go.R
end
