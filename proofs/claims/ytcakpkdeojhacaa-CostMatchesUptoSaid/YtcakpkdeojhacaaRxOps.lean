/-
  Each operation of the evaluator's is what the model's operation does, at related memory.
  No condition beyond those that each statement names.
-/
import Derived.Test.YtcakpkdeojhacaaRxRel
namespace Go.R

section pure_
variable {α β : Type} (P : Program)
theorem pureRun_run {s : Sem α} {a : α} (h : pureRun P s = some a) (w : World) : s.run P w = .ok a w := by
  induction s with
  | pure x => simp only [pureRun, Option.some.injEq] at h; subst h; rfl
  | program k ih => simp only [pureRun] at h; simp only [Sem.run]; exact ih _ h
  | mark m k ih => simp only [pureRun] at h; simp only [Sem.run]; exact ih h
  | _ => simp [pureRun] at h
@[simp] theorem pureRun_bind (x : Sem α) (f : α → Sem β) : pureRun P (x >>= f) = (pureRun P x).bind fun a => pureRun P (f a) := by
  show pureRun P (x.bind f) = _
  induction x with
  | program k ih => simp only [Sem.bind, pureRun]; exact ih _
  | mark m k ih => simp only [Sem.bind, pureRun]; exact ih
  | pure a => rfl
  | _ => rfl
@[simp] theorem pureRun_pure (a : α) : pureRun P (Pure.pure a : Sem α) = some a := rfl
@[simp] theorem pureRun_program : pureRun P program = some P := rfl
@[simp] theorem pureRun_stuck (why : String) : pureRun P (stuck why : Sem α) = none := rfl
@[simp] theorem pureRun_unsupported (u : Unsupported) : pureRun P (unsupported u : Sem α) = none := rfl
@[simp] theorem pureRun_goPanic (v : Value) : pureRun P (goPanic v : Sem α) = none := rfl
@[simp] theorem pureRun_choose (q : Question) : pureRun P (choose q) = none := rfl
@[simp] theorem pureRun_mark (m : Mark) : pureRun P (mark m) = some () := rfl
theorem pureRun_ite (c : Prop) [Decidable c] (x y : Sem α) : pureRun P (if c then x else y) = if c then pureRun P x else pureRun P y := by split <;> rfl
@[simp] theorem pureRun_underlying (t : TypeId) : pureRun P (underlying t) = P.underlying t := by
  unfold underlying; simp only [pureRun_bind, pureRun_program, Option.bind_some]; cases P.underlying t <;> rfl
@[simp] theorem pureRun_typeInfo (t : TypeId) : pureRun P (typeInfo t) = P.info? t := by
  unfold typeInfo; simp only [pureRun_bind, pureRun_program, Option.bind_some]; cases P.info? t <;> rfl
@[simp] theorem pureRun_sizeOf (t : TypeId) : pureRun P (sizeOf t) = szOf P t := by
  unfold sizeOf szOf; simp only [pureRun_bind, pureRun_typeInfo]; cases P.info? t <;> rfl
@[simp] theorem pureRun_isAgg (t : TypeId) : pureRun P (isAgg t) = aggOf P t := by
  unfold isAgg aggOf
  simp only [pureRun_bind, pureRun_underlying]
  cases P.underlying t with
  | none => rfl
  | some d => cases d <;> rfl
theorem pureRun_runtimePanic (e : RuntimeError) : pureRun P (runtimePanic e : Sem α) = none := by
  unfold runtimePanic
  cases e <;> simp [newVar, newRow, newObj, pureRun, elemOf] <;> (intros; split <;> simp [pureRun])
theorem pureRun_boundsPanic (k : IntKind) (x y : Int) (c : BoundsCode) : pureRun P (boundsPanic k x y c : Sem α) = none := by
  unfold boundsPanic
  simp [pureRun_runtimePanic, pureRun_ite]
end pure_

section runs
variable {P : Program} (w : World)
theorem run_sizeOf' {t : TypeId} {n : Nat} (h : szOf P t = some n) : (sizeOf t).run P w = .ok n w := pureRun_run P (by rw [pureRun_sizeOf]; exact h) w
theorem run_isAgg' {t : TypeId} {b : Bool} (h : aggOf P t = some b) : (isAgg t).run P w = .ok b w := pureRun_run P (by rw [pureRun_isAgg]; exact h) w
theorem run_typeInfo' {t : TypeId} {i : TypeInfo} (h : P.info? t = some i) : (typeInfo t).run P w = .ok i w := pureRun_run P (by rw [pureRun_typeInfo]; exact h) w
theorem run_underlying' {t : TypeId} {d : TypeDesc} (h : P.underlying t = some d) : (underlying t).run P w = .ok d w := pureRun_run P (by rw [pureRun_underlying]; exact h) w
theorem zeroOf_spec {t : TypeId} {z : List Value} (h : zeroOf P t = some z) : ∃ i v, P.info? t = some i ∧ i.zero = some v ∧ v.cells.toList = z ∧ z.all noA0 = true := by
  unfold zeroOf at h
  split at h
  · rename_i i hi
    split at h
    · rename_i v hv
      cases hc : v.cells.toList.all noA0 with
      | false => rw [hc] at h; cases h
      | true => rw [hc] at h; simp at h; subst h; exact ⟨i, v, hi, hv, rfl, hc⟩
    · cases h
  · cases h
theorem run_zeroValue {t : TypeId} {i : TypeInfo} {v : Value} (hi : P.info? t = some i) (hv : i.zero = some v) : (zeroValue t).run P w = .ok v w := by
  unfold zeroValue; simp [run_typeInfo' w hi, hv]
end runs

/-! Reading and writing cells. -/
section mem
variable {P : Program} {μ : Emb} {H : Heap} {w : World}

theorem cellAt_sound (h : WRel μ H w) {b o : Nat} {l : Loc} {v : Value} (hb : μ b = some l) (hv : H.cellAt ⟨b, o, none⟩ = some v) :
    ∃ v', w.cell? ⟨l.c, l.sh + o, none⟩ = some v' ∧ VRel μ v v' := by
  simp only [Heap.cellAt, nth_eq] at hv
  split at hv
  · rename_i cs opn ro hg
    have hr := h.obj b l _ hb hg
    cases ro with
    | true => exact hr.2.2.2 o v hv
    | false =>
      obtain ⟨_, ccs, e, hh, _, _, h4⟩ := hr
      obtain ⟨v', hv', hrel⟩ := h4 o v hv
      exact ⟨v', by simp only [World.cell?, hh]; simpa using hv', hrel⟩
  · cases hv

theorem Addr_add (c o j : Nat) : Addr.add ⟨c, o, none⟩ j = ⟨c, o + j, none⟩ := by
  unfold Addr.add; split
  · subst_vars; rfl
  · rfl

theorem loadN_sound (h : WRel μ H w) {b o n : Nat} {l : Loc} {vs : List Value} (hb : μ b = some l) (hv : H.loadN ⟨b, o, none⟩ n = some vs) :
    ∃ vs', (loadCells ⟨l.c, l.sh + o, none⟩ n).run P w = .ok ⟨vs'⟩ w ∧ LRel μ vs vs' ∧ vs.length = n := by
  simp only [Heap.loadN, takeL_eq, dropL_eq, lenL_eq] at hv
  split at hv
  · rename_i cs opn ro hg
    cases hq : Nat.beq ((cs.drop o).take n).length n with
    | false => rw [hq] at hv; cases hv
    | true =>
      rw [hq] at hv; simp only [cond_true, Option.some.injEq] at hv
      have hlen : ((cs.drop o).take n).length = n := Nat.eq_of_beq_eq_true hq
      have key : ∀ j, j < n → ∃ v v', cs[o + j]? = some v ∧ w.cell? ⟨l.c, l.sh + o + j, none⟩ = some v' ∧ VRel μ v v' := by
        intro j hj
        have hcs : o + j < cs.length := by rw [List.length_take, List.length_drop] at hlen; omega
        have hget : H.cellAt ⟨b, o + j, none⟩ = some cs[o + j] := by simp only [Heap.cellAt, hg, nth_eq]; exact List.getElem?_eq_getElem hcs
        obtain ⟨v', hc, hr⟩ := cellAt_sound h hb hget
        exact ⟨_, v', List.getElem?_eq_getElem hcs, by rw [← hc, Nat.add_assoc], hr⟩
      have hf : ∃ f : Nat → Value, ∀ j, j < n → w.cell? (Addr.add ⟨l.c, l.sh + o, none⟩ j) = some (f j) ∧ ∀ v, cs[o + j]? = some v → VRel μ v (f j) := by
        refine ⟨fun j => (w.cell? ⟨l.c, l.sh + o + j, none⟩).getD undef, fun j hj => ?_⟩
        obtain ⟨v, v', h1, h2, h3⟩ := key j hj
        simp only [Addr_add, h2, Option.getD_some]
        refine ⟨trivial, fun u hu => ?_⟩
        rw [h1] at hu; injection hu with hu; subst hu; exact h3
      obtain ⟨f, hf⟩ := hf
      refine ⟨(List.range n).map f, run_loadCells w _ n f (fun j hj => (hf j hj).1), ?_, by rw [← hv]; exact hlen⟩
      subst hv
      refine ⟨by rw [hlen]; simp, fun i v v' h1 h2 => ?_⟩
      rw [List.getElem?_take] at h1
      split at h1
      · rename_i hi
        rw [List.getElem?_drop] at h1
        simp [hi] at h2
        subst h2
        exact (hf i hi).2 v h1
      · cases h1
  · cases hv

theorem loadV_sound (h : WRel μ H w) {b o : Nat} {l : Loc} {t : TypeId} {v : Value} (hb : μ b = some l) (hv : H.loadV P t ⟨b, o, none⟩ = some v) :
    ∃ v', (loadVar t ⟨l.c, l.sh + o, none⟩).run P w = .ok v' w ∧ VRel μ v v' := by
  unfold Heap.loadV at hv
  split at hv
  · rename_i hg
    split at hv
    · rename_i n hn
      split at hv
      · rename_i vs hl
        injection hv with hv; subst hv
        obtain ⟨vs', hrun, hrel, _⟩ := loadN_sound (P := P) h hb hl
        refine ⟨.agg ⟨vs'⟩, ?_, .agg _ _ hrel.1 hrel.2⟩
        simp [loadVar, run_isAgg' w hg, run_sizeOf' w hn, hrun]
      · cases hv
    · cases hv
  · rename_i hg
    obtain ⟨v', hc, hr⟩ := cellAt_sound h hb hv
    refine ⟨v', ?_, hr⟩
    simp [loadVar, run_isAgg' w hg, hc]
  · cases hv

theorem mk_get {α : Type} (l : List α) (k : Nat) : (Array.mk l)[k]? = l[k]? := by simp
theorem over_length : ∀ (cs vs : List Value), vs.length ≤ cs.length → (over cs vs).length = cs.length
  | [], [], _ => rfl
  | [], _ :: _, h => by simp at h
  | _ :: _, [], _ => rfl
  | c :: cs, v :: vs, h => by simp only [over, List.length_cons]; rw [over_length cs vs (by simpa using h)]
theorem over_get : ∀ (cs vs : List Value) (i : Nat), vs.length ≤ cs.length → (over cs vs)[i]? = if i < vs.length then vs[i]? else cs[i]?
  | [], [], i, _ => by simp [over]
  | [], _ :: _, _, h => by simp at h
  | _ :: _, [], i, _ => by simp [over]
  | c :: cs, v :: vs, 0, _ => by simp [over]
  | c :: cs, v :: vs, i + 1, h => by simp [over, over_get cs vs i (by simpa using h)]
theorem splice_length : ∀ (cs : List Value) (o : Nat) (vs : List Value), o + vs.length ≤ cs.length → (splice cs o vs).length = cs.length
  | cs, 0, vs, h => by cases cs <;> exact over_length _ _ (by omega)
  | [], o + 1, vs, h => by simp [splice]
  | c :: cs, o + 1, vs, h => by simp only [splice, List.length_cons]; rw [splice_length cs o vs (by simp at h; omega)]
theorem splice_get : ∀ (cs : List Value) (o : Nat) (vs : List Value) (i : Nat), o + vs.length ≤ cs.length →
    (splice cs o vs)[i]? = if o ≤ i ∧ i < o + vs.length then vs[i - o]? else cs[i]?
  | cs, 0, vs, i, h => by
    have : splice cs 0 vs = over cs vs := by cases cs <;> rfl
    rw [this, over_get cs vs i (by omega)]; simp
  | [], o + 1, vs, i, h => by simp at h
  | c :: cs, o + 1, vs, 0, h => by simp [splice]
  | c :: cs, o + 1, vs, i + 1, h => by
    simp only [splice, List.getElem?_cons_succ]
    rw [splice_get cs o vs i (by simp at h; omega)]
    by_cases hc : o ≤ i ∧ i < o + vs.length
    · rw [if_pos hc, if_pos (by omega)]; congr 1; omega
    · rw [if_neg hc, if_neg (by omega)]

/-- Storing a row of cells into a block that lies in memory. -/
theorem run_storeCells_row (c : Nat) (e : TypeId) : ∀ (vs : List Value) (w : World) (ccs : Array Value) (o i : Nat), w.heap[c]? = some (.cells ccs e (0, 0)) →
    o + i + vs.length ≤ ccs.size → vs.all Value.oneCell' = true → vs ≠ [] →
    (storeCells ⟨c, o, none⟩ vs i).run P w = .ok () (setObjAt w c (.cells ⟨splice ccs.toList (o + i) vs⟩ e (0, 0)))
  | [], _, _, _, _, _, _, _, hne => absurd rfl hne
  | v :: vs, w, ccs, o, i, hh, hl, hall, _ => by
    simp only [List.all_cons, Bool.and_eq_true] at hall
    simp only [List.length_cons] at hl
    have hcell : w.cell? ⟨c, o + i, none⟩ = some (ccs[o + i]'(by omega)) := by simp [World.cell?, hh, show o + i < ccs.size by omega]
    have hfr : w.frozen? ⟨c, o + i, none⟩ = false := by simp [World.frozen?, hh]
    have hset : w.setCell ⟨c, o + i, none⟩ v = setObjAt w c (.cells (ccs.setIfInBounds (o + i) v) e (0, 0)) := by
      unfold World.setCell setObjAt
      congr 1
      apply Array.ext_getElem?
      intro k
      by_cases hk : c = k
      · subst hk
        rw [Array.getElem?_modify, if_pos rfl, hh, Array.getElem?_setIfInBounds, if_pos rfl, if_pos (lt_of_heap hh)]
        simp
      · simp [Array.getElem?_modify, hk, Array.getElem?_setIfInBounds_ne hk]
    have h1 : (storeCells ⟨c, o, none⟩ (v :: vs) i).run P w = (storeCells ⟨c, o, none⟩ vs (i + 1)).run P (setObjAt w c (.cells (ccs.setIfInBounds (o + i) v) e (0, 0))) := by
      simp only [storeCells, Sem.run_bind, Addr_add]
      rw [run_store P w _ v _ hall.1, hcell]
      simp [hfr, hset]
    rw [h1]
    by_cases hv : vs = []
    · subst hv
      simp only [storeCells, Sem.run_pure]
      congr 3
      apply Array.ext_getElem?
      intro k
      simp only [List.length_nil] at hl
      rw [Array.getElem?_setIfInBounds]
      refine Eq.trans ?_ (mk_get _ _).symm
      rw [splice_get _ _ _ _ (by simp; omega)]
      by_cases hk : o + i = k
      · subst hk
        rw [if_pos rfl, if_pos (by omega), if_pos (by simp)]; simp
      · rw [if_neg hk, if_neg (by simp; omega)]; simp
    · have hh' : (setObjAt w c (.cells (ccs.setIfInBounds (o + i) v) e (0, 0))).heap[c]? = some (.cells (ccs.setIfInBounds (o + i) v) e (0, 0)) := setObjAt_get_same w _ (lt_of_heap hh)
      rw [run_storeCells_row c e vs _ _ o (i + 1) hh' (by simp; omega) hall.2 hv]
      congr 1
      have : ∀ (x y : Obj), setObjAt (setObjAt w c x) c y = setObjAt w c y := by intro x y; simp [setObjAt]
      rw [this]
      congr 2
      apply Array.ext_getElem?
      intro k
      refine (mk_get _ _).trans (Eq.trans ?_ (mk_get _ _).symm)
      rw [splice_get _ _ _ _ (by simp; omega), splice_get _ _ _ _ (by simp; omega)]
      by_cases hk : o + i = k
      · subst hk
        rw [if_neg (by omega), if_pos (by simp)]
        simp [show o + i < ccs.size by omega]
      · by_cases hk2 : o + (i + 1) ≤ k ∧ k < o + (i + 1) + vs.length
        · rw [if_pos hk2, if_pos (by simp; omega)]
          rw [show k - (o + i) = (k - (o + (i + 1))) + 1 by omega, List.getElem?_cons_succ]
        · rw [if_neg hk2, if_neg (by simp; omega)]
          simp [hk]

theorem storeL_sound (h : WRel μ H w) {b o : Nat} {l : Loc} {vs vs' : List Value} {H' : Heap} (hb : μ b = some l) (hs : H.storeL ⟨b, o, none⟩ vs = some H') (hrel : LRel μ vs vs') :
    ∃ w', (storeCells ⟨l.c, l.sh + o, none⟩ vs').run P w = .ok () w' ∧ Post μ H w μ H' w' := by
  simp only [Heap.storeL, lenL_eq, allL_eq, Nat.add_eq] at hs
  split at hs
  · rename_i cs opn hg
    cases hq : (Nat.ble (o + vs.length) cs.length && vs.all Value.oneCell') with
    | false => rw [hq] at hs; cases hs
    | true =>
      rw [hq] at hs; simp only [cond_true, Option.some.injEq] at hs
      simp only [Bool.and_eq_true] at hq
      have hle : o + vs.length ≤ cs.length := Nat.le_of_ble_eq_true hq.1
      obtain ⟨r1, ccs, e, hh, r2, r3, r4⟩ := h.obj b l _ hb hg
      have hlen := hrel.1
      have hall : vs'.all Value.oneCell' = true := by
        rw [List.all_eq_true]
        intro x hx
        obtain ⟨i, hi⟩ := List.getElem?_of_mem hx
        have hi' : i < vs.length := by rw [hlen]; exact (List.getElem?_eq_some_iff.1 hi).1
        have hr := hrel.2 i vs[i] x (List.getElem?_eq_getElem hi') hi
        rw [hr.oneCell]
        exact List.all_eq_true.1 hq.2 _ (List.getElem_mem hi')
      by_cases hne : vs' = []
      · subst hne
        have hv : vs = [] := by simpa using hlen
        subst hv
        have hsp : splice cs o [] = cs := by
          apply List.ext_getElem?; intro k; rw [splice_get _ _ _ _ (by simpa using hle), if_neg (by simp)]
        subst hs
        refine ⟨setObjAt w l.c (.cells ccs e (0, 0)), ?_, ?_⟩
        · have : setObjAt w l.c (.cells ccs e (0, 0)) = w := by
            unfold setObjAt
            congr 1
            apply Array.ext_getElem?
            intro k
            by_cases hk : l.c = k
            · subst hk; rw [Array.getElem?_setIfInBounds, if_pos rfl, if_pos (lt_of_heap hh), hh]
            · rw [Array.getElem?_setIfInBounds_ne hk]
          rw [this]; rfl
        · refine Post.put h hb hg rfl _ rfl _ ⟨r1, ccs, e, setObjAt_get_same w _ (lt_of_heap hh), r2, by rw [hsp]; exact r3, fun i v hi => r4 i v (by rw [hsp] at hi; exact hi)⟩
      · subst hs
        refine ⟨_, by simpa using run_storeCells_row (P := P) l.c e vs' w ccs (l.sh + o) 0 hh (by omega) hall hne, ?_⟩
        refine Post.put h hb hg rfl _ rfl _ ⟨r1, _, e, setObjAt_get_same w _ (lt_of_heap hh), ?_, ?_, ?_⟩
        · rw [← r2]
          show (splice ccs.toList (l.sh + o) vs').length = _
          rw [splice_length _ _ _ (by simp; omega)]; simp
        · rw [splice_length _ _ _ hle]; exact r3
        · intro i v hi
          rw [splice_get _ _ _ _ hle] at hi
          have mg : ∀ v' : Value, (splice ccs.toList (l.sh + o) vs')[l.sh + i]? = some v' → (Array.mk (splice ccs.toList (l.sh + o + 0) vs'))[l.sh + i]? = some v' := fun v' hv => (mk_get _ _).trans hv
          rw [splice_get _ _ _ _ (by simp; omega)] at mg
          by_cases hc : o ≤ i ∧ i < o + vs.length
          · rw [if_pos hc] at hi
            rw [if_pos (by omega)] at mg
            obtain ⟨v', hv', hr⟩ := hrel.get hi
            exact ⟨v', mg v' (by rw [← hv']; congr 1; omega), hr⟩
          · rw [if_neg hc] at hi
            rw [if_neg (by omega)] at mg
            obtain ⟨v', hv', hr⟩ := r4 i v hi
            exact ⟨v', mg v' (by simpa using hv'), hr⟩
  · cases hs

/-- A new row of cells. -/
theorem newRow_sound (h : WRel μ H w) (hf : μ H.next = none) (e : TypeId) {cs cs' : List Value} (hrel : LRel μ cs cs') (rest : List Value) (opn : Option Nat) (hro : opn = none → rest = []) :
    ∃ l, l.c = w.heap.size ∧ l.sh = 0 ∧ l.opn = opn ∧ l.csz = cs.length + rest.length ∧
    (newRow e ⟨cs' ++ rest⟩).run P w = .ok ⟨w.heap.size, 0, none⟩ (w.alloc (.cells ⟨cs' ++ rest⟩ e)) ∧
      Post μ H w (μ.set H.next l) (newCells H cs opn) (w.alloc (.cells ⟨cs' ++ rest⟩ e)) := by
  refine ⟨⟨w.heap.size, 0, opn, cs.length + rest.length⟩, rfl, rfl, rfl, rfl, by simp [newRow], ?_⟩
  refine Post.push h hf _ rfl _ _ ⟨rfl, _, e, heap_push_new w _, by simp [hrel.1], by simp, fun i v hi => ?_⟩
  obtain ⟨v', hv', hr⟩ := hrel.get hi
  refine ⟨v', ?_, hr.mono (Emb.set_ext _ hf)⟩
  have : i < cs'.length := (List.getElem?_eq_some_iff.1 hv').1
  simp only [Nat.zero_add, mk_get]
  rw [List.getElem?_append_left this]; exact hv'
end mem
end Go.R
