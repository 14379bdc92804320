/-
  The relation between the evaluator's heap and values and the model's world and values, and what keeps it.
  No condition beyond those that each statement names.
-/
import Derived.Test.YtcakpkdeojhacaaRxDefs
namespace Go.R

/-- Where an abstract block lies: the block, how far its first cell is shifted, made by append (its element's size), the number of cells in memory. -/
structure Loc where
  c : Nat
  sh : Nat
  opn : Option Nat
  csz : Nat

abbrev Emb := Nat → Option Loc

inductive VRel (μ : Emb) : Value → Value → Prop
  | atom (v : Value) : noA0 v = true → VRel μ v v
  | ptr (b o : Nat) (l : Loc) : μ b = some l → VRel μ (.pointer (some ⟨b, o, none⟩)) (.pointer (some ⟨l.c, l.sh + o, none⟩))
  | sliceC (b o n k : Nat) (l : Loc) : μ b = some l → l.opn = none → VRel μ (.slice (some ⟨b, o, none⟩) n k) (.slice (some ⟨l.c, l.sh + o, none⟩) n k)
  | sliceO (b o o' n k k' e : Nat) (l : Loc) : μ b = some l → l.opn = some e → n ≤ k → k ≤ k' → (0 < k → o' = l.sh + o) → o' + k' * e ≤ l.csz →
      VRel μ (.slice (some ⟨b, o, none⟩) n k) (.slice (some ⟨l.c, o', none⟩) n k')
  | map (b : Nat) (l : Loc) : μ b = some l → VRel μ (.map (some b)) (.map (some l.c))
  | func (fn : Fn) (xs ys xs' ys' : Array Value) : xs.toList.length = xs'.toList.length → ys.toList.length = ys'.toList.length →
      (∀ (i : Nat) v v', xs.toList[i]? = some v → xs'.toList[i]? = some v' → VRel μ v v') →
      (∀ (i : Nat) v v', ys.toList[i]? = some v → ys'.toList[i]? = some v' → VRel μ v v') → VRel μ (.func fn xs ys) (.func fn xs' ys')
  | agg (xs xs' : Array Value) : xs.toList.length = xs'.toList.length →
      (∀ (i : Nat) v v', xs.toList[i]? = some v → xs'.toList[i]? = some v' → VRel μ v v') → VRel μ (.agg xs) (.agg xs')
  | tuple (xs xs' : Array Value) : xs.toList.length = xs'.toList.length →
      (∀ (i : Nat) v v', xs.toList[i]? = some v → xs'.toList[i]? = some v' → VRel μ v v') → VRel μ (.tuple xs) (.tuple xs')

def LRel (μ : Emb) (l l' : List Value) : Prop := l.length = l'.length ∧ ∀ (i : Nat) v v', l[i]? = some v → l'[i]? = some v' → VRel μ v v'

section
variable {μ μ' : Emb}

theorem VRel.mono (h : ∀ b l, μ b = some l → μ' b = some l) {v v' : Value} (hv : VRel μ v v') : VRel μ' v v' := by
  induction hv with
  | atom v h0 => exact .atom v h0
  | ptr b o l hb => exact .ptr b o l (h _ _ hb)
  | sliceC b o n k l hb ho => exact .sliceC b o n k l (h _ _ hb) ho
  | sliceO b o o' n k k' e l hb ho h1 h2 h3 h4 => exact .sliceO b o o' n k k' e l (h _ _ hb) ho h1 h2 h3 h4
  | map b l hb => exact .map b l (h _ _ hb)
  | func fn xs ys xs' ys' h1 h2 _ _ i1 i2 => exact .func fn xs ys xs' ys' h1 h2 i1 i2
  | agg xs xs' h1 _ i1 => exact .agg xs xs' h1 i1
  | tuple xs xs' h1 _ i1 => exact .tuple xs xs' h1 i1

theorem LRel.mono (h : ∀ b l, μ b = some l → μ' b = some l) {l l' : List Value} (hl : LRel μ l l') : LRel μ' l l' :=
  ⟨hl.1, fun i v v' h1 h2 => (hl.2 i v v' h1 h2).mono h⟩
theorem LRel.nil : LRel μ [] [] := ⟨rfl, fun i v v' h => by simp at h⟩
theorem LRel.cons {v v' : Value} {l l' : List Value} (h : VRel μ v v') (hl : LRel μ l l') : LRel μ (v :: l) (v' :: l') := by
  refine ⟨by simp [hl.1], fun i x x' h1 h2 => ?_⟩
  cases i with
  | zero => simp at h1 h2; subst h1 h2; exact h
  | succ i => exact hl.2 i x x' (by simpa using h1) (by simpa using h2)
theorem LRel.head {v v' : Value} {l l' : List Value} (h : LRel μ (v :: l) (v' :: l')) : VRel μ v v' := h.2 0 v v' rfl rfl
theorem LRel.tail {v v' : Value} {l l' : List Value} (h : LRel μ (v :: l) (v' :: l')) : LRel μ l l' :=
  ⟨by simpa using h.1, fun i x x' h1 h2 => h.2 (i + 1) x x' (by simpa using h1) (by simpa using h2)⟩
theorem LRel.get {l l' : List Value} (h : LRel μ l l') {i : Nat} {v : Value} (hv : l[i]? = some v) : ∃ v', l'[i]? = some v' ∧ VRel μ v v' := by
  have hi : i < l'.length := by rw [← h.1]; exact (List.getElem?_eq_some_iff.1 hv).1
  exact ⟨l'[i], List.getElem?_eq_getElem hi, h.2 i v _ hv (List.getElem?_eq_getElem hi)⟩
theorem LRel.append {a b a' b' : List Value} (h : LRel μ a a') (k : LRel μ b b') : LRel μ (a ++ b) (a' ++ b') := by
  refine ⟨by simp [h.1, k.1], fun i v v' h1 h2 => ?_⟩
  by_cases hi : i < a.length
  · rw [List.getElem?_append_left hi] at h1
    rw [List.getElem?_append_left (h.1 ▸ hi)] at h2
    exact h.2 i v v' h1 h2
  · rw [List.getElem?_append_right (by omega)] at h1
    rw [List.getElem?_append_right (by have := h.1; omega), ← h.1] at h2
    exact k.2 _ v v' h1 h2
theorem LRel.take {a a' : List Value} (h : LRel μ a a') (n : Nat) : LRel μ (a.take n) (a'.take n) := by
  refine ⟨by simp [h.1], fun i v v' h1 h2 => ?_⟩
  rw [List.getElem?_take] at h1 h2
  split at h1
  · rename_i hi; rw [if_pos hi] at h2; exact h.2 i v v' h1 h2
  · cases h1
theorem LRel.drop {a a' : List Value} (h : LRel μ a a') (n : Nat) : LRel μ (a.drop n) (a'.drop n) := by
  refine ⟨by simp [h.1], fun i v v' h1 h2 => ?_⟩
  rw [List.getElem?_drop] at h1 h2
  exact h.2 _ v v' h1 h2
/-- By cases on the first list, both lists taken apart. -/
theorem LRel.nil_left {l' : List Value} (h : LRel μ [] l') : l' = [] := List.eq_nil_of_length_eq_zero h.1.symm
theorem LRel.cons_left {v : Value} {l l' : List Value} (h : LRel μ (v :: l) l') : ∃ v' t', l' = v' :: t' ∧ VRel μ v v' ∧ LRel μ l t' := by
  cases l' with
  | nil => have := h.1; simp at this
  | cons v' t' => exact ⟨v', t', rfl, h.head, h.tail⟩

theorem noA0_oneCell {v : Value} (h : noA0 v = true) : v.oneCell' = true := by cases v <;> simp_all [noA0, Value.oneCell']
theorem VRel.oneCell {v v' : Value} (h : VRel μ v v') : v'.oneCell' = v.oneCell' := by cases h <;> rfl

theorem VRel.eq0 {v v' : Value} (h : VRel μ v v') (h0 : noA0 v = true) : v' = v := by
  cases h with
  | atom => rfl
  | func fn xs ys xs' ys' h1 h2 _ _ =>
    simp only [noA0, Bool.and_eq_true] at h0
    have e1 : xs.size = 0 := Nat.eq_of_beq_eq_true h0.1
    have e2 : ys.size = 0 := Nat.eq_of_beq_eq_true h0.2
    have f1 : xs = #[] := Array.size_eq_zero_iff.1 e1
    have f2 : ys = #[] := Array.size_eq_zero_iff.1 e2
    subst f1 f2
    have g1 : xs' = #[] := Array.size_eq_zero_iff.1 (by simpa using h1.symm)
    have g2 : ys' = #[] := Array.size_eq_zero_iff.1 (by simpa using h2.symm)
    subst g1 g2
    rfl
  | _ => simp [noA0] at h0
theorem LRel.eq0 {l l' : List Value} (h : LRel μ l l') (h0 : l.all noA0 = true) : l' = l := by
  induction l generalizing l' with
  | nil => exact h.nil_left
  | cons v l ih =>
    obtain ⟨v', t', rfl, hv, ht⟩ := h.cons_left
    simp only [List.all_cons, Bool.and_eq_true] at h0
    rw [hv.eq0 h0.1, ih ht h0.2]
theorem VRel.eq1 {v v' : Value} (h : VRel μ v v') (h1 : noA1 v = true) : v' = v := by
  cases h with
  | agg xs xs' hl hi =>
    have := LRel.eq0 (μ := μ) (l := xs.toList) (l' := xs'.toList) ⟨hl, hi⟩ h1
    rw [Array.toList_inj.1 this]
  | atom v h0 => rfl
  | _ => exact VRel.eq0 (μ := μ) (by constructor <;> assumption) h1
theorem LRel.eq1 {l l' : List Value} (h : LRel μ l l') (h0 : l.all noA1 = true) : l' = l := by
  induction l generalizing l' with
  | nil => exact h.nil_left
  | cons v l ih =>
    obtain ⟨v', t', rfl, hv, ht⟩ := h.cons_left
    simp only [List.all_cons, Bool.and_eq_true] at h0
    rw [hv.eq1 h0.1, ih ht h0.2]

theorem LRel.refl0 {l : List Value} (h : l.all noA0 = true) : LRel μ l l := by
  refine ⟨rfl, fun i v v' h1 h2 => ?_⟩
  rw [h1] at h2; injection h2 with h2; subst h2
  exact .atom v (List.all_eq_true.1 h v (List.mem_of_getElem? h1))
theorem VRel.refl1 {v : Value} (h : noA1 v = true) : VRel μ v v := by
  cases v with
  | agg cs => have := LRel.refl0 (μ := μ) (l := cs.toList) h; exact .agg cs cs this.1 this.2
  | _ => exact .atom _ h
theorem LRel.refl1 {l : List Value} (h : l.all noA1 = true) : LRel μ l l := by
  refine ⟨rfl, fun i v v' h1 h2 => ?_⟩
  rw [h1] at h2; injection h2 with h2; subst h2
  exact VRel.refl1 (List.all_eq_true.1 h v (List.mem_of_getElem? h1))
theorem VRel.refl2 {v : Value} (h : noA2 v = true) : VRel μ v v := by
  cases v with
  | tuple vs => have := LRel.refl1 (μ := μ) (l := vs.toList) h; exact .tuple vs vs this.1 this.2
  | _ => exact VRel.refl1 h
theorem VRel.undef : VRel μ undef undef := VRel.refl2 rfl
theorem VRel.eq2 {v v' : Value} (h : VRel μ v v') (h1 : noA2 v = true) : v' = v := by
  cases h with
  | tuple xs xs' hl hi =>
    have := LRel.eq1 (μ := μ) (l := xs.toList) (l' := xs'.toList) ⟨hl, hi⟩ h1
    rw [Array.toList_inj.1 this]
  | atom v h0 => rfl
  | _ => exact VRel.eq1 (μ := μ) (by constructor <;> assumption) h1
theorem VRel.cells {v v' : Value} (h : VRel μ v v') : LRel μ v.cells.toList v'.cells.toList := by
  have one : ∀ {u u' : Value}, VRel μ u u' → LRel μ [u] [u'] := fun hu => .cons hu .nil
  cases h with
  | agg xs xs' hl hi => exact ⟨hl, hi⟩
  | atom v h0 => cases v <;> first | (simp [noA0] at h0; done) | exact one (.atom _ h0)
  | ptr b o l hb => exact one (.ptr b o l hb)
  | sliceC b o n k l hb ho => exact one (.sliceC b o n k l hb ho)
  | sliceO b o o' n k k' e l hb ho h1 h2 h3 h4 => exact one (.sliceO b o o' n k k' e l hb ho h1 h2 h3 h4)
  | map b l hb => exact one (.map b l hb)
  | func fn xs ys xs' ys' h1 h2 i1 i2 => exact one (.func fn xs ys xs' ys' h1 h2 i1 i2)
  | tuple xs xs' h1 i1 => exact one (.tuple xs xs' h1 i1)

/-! What a related value looks like. -/
theorem VRel.int_inv {k : IntKind} {n : Int} {v' : Value} (h : VRel μ (.int k n) v') : v' = .int k n := h.eq0 rfl
theorem VRel.bool_inv {b : Bool} {v' : Value} (h : VRel μ (.bool b) v') : v' = .bool b := h.eq0 rfl
theorem VRel.string_inv {s : ByteArray} {v' : Value} (h : VRel μ (.string s) v') : v' = .string s := h.eq0 rfl
theorem VRel.ptr_inv {b o : Nat} {v' : Value} (h : VRel μ (.pointer (some ⟨b, o, none⟩)) v') : ∃ l, μ b = some l ∧ v' = .pointer (some ⟨l.c, l.sh + o, none⟩) := by
  cases h with
  | atom _ h0 => simp [noA0] at h0
  | ptr _ _ l hb => exact ⟨l, hb, rfl⟩
theorem VRel.ptr_some {a : Addr} {v' : Value} (h : VRel μ (.pointer (some a)) v') : a.spot = none ∧ ∃ a', v' = .pointer (some a') := by
  cases h with
  | atom _ h0 => simp [noA0] at h0
  | ptr _ _ l hb => exact ⟨rfl, _, rfl⟩
theorem VRel.agg_inv {xs : Array Value} {v' : Value} (h : VRel μ (.agg xs) v') : ∃ xs', v' = .agg xs' ∧ LRel μ xs.toList xs'.toList := by
  cases h with
  | atom _ h0 => simp [noA0] at h0
  | agg _ xs' hl hi => exact ⟨xs', rfl, hl, hi⟩
theorem VRel.tuple_inv {xs : Array Value} {v' : Value} (h : VRel μ (.tuple xs) v') : ∃ xs', v' = .tuple xs' ∧ LRel μ xs.toList xs'.toList := by
  cases h with
  | atom _ h0 => simp [noA0] at h0
  | tuple _ xs' hl hi => exact ⟨xs', rfl, hl, hi⟩
theorem VRel.func_inv {fn : Fn} {xs ys : Array Value} {v' : Value} (h : VRel μ (.func fn xs ys) v') :
    ∃ xs' ys', v' = .func fn xs' ys' ∧ LRel μ xs.toList xs'.toList ∧ LRel μ ys.toList ys'.toList := by
  cases h with
  | atom _ h0 =>
    simp only [noA0, Bool.and_eq_true] at h0
    have f1 : xs = #[] := Array.size_eq_zero_iff.1 (Nat.eq_of_beq_eq_true h0.1)
    have f2 : ys = #[] := Array.size_eq_zero_iff.1 (Nat.eq_of_beq_eq_true h0.2)
    subst f1 f2
    exact ⟨#[], #[], rfl, .nil, .nil⟩
  | func _ _ _ xs' ys' h1 h2 i1 i2 => exact ⟨xs', ys', rfl, ⟨h1, i1⟩, ⟨h2, i2⟩⟩
theorem VRel.map_inv {b : Nat} {v' : Value} (h : VRel μ (.map (some b)) v') : ∃ l, μ b = some l ∧ v' = .map (some l.c) := by
  cases h with
  | atom _ h0 => simp [noA0] at h0
  | map _ l hb => exact ⟨l, hb, rfl⟩
theorem VRel.mapNil_inv {v' : Value} (h : VRel μ (.map none) v') : v' = .map none := h.eq0 rfl
theorem VRel.slice_inv {b o n k : Nat} {v' : Value} (h : VRel μ (.slice (some ⟨b, o, none⟩) n k) v') :
    ∃ l, μ b = some l ∧ ((l.opn = none ∧ v' = .slice (some ⟨l.c, l.sh + o, none⟩) n k) ∨
      ∃ e o' k', l.opn = some e ∧ v' = .slice (some ⟨l.c, o', none⟩) n k' ∧ n ≤ k ∧ k ≤ k' ∧ (0 < k → o' = l.sh + o) ∧ o' + k' * e ≤ l.csz) := by
  cases h with
  | atom _ h0 => simp [noA0] at h0
  | sliceC _ _ _ _ l hb ho => exact ⟨l, hb, .inl ⟨ho, rfl⟩⟩
  | sliceO _ _ o' _ _ k' e l hb ho h1 h2 h3 h4 => exact ⟨l, hb, .inr ⟨e, o', k', ho, rfl, h1, h2, h3, h4⟩⟩
theorem VRel.sliceNil_inv {n k : Nat} {v' : Value} (h : VRel μ (.slice none n k) v') : n = 0 ∧ k = 0 ∧ v' = .slice none n k := by
  cases h with
  | atom _ h0 =>
    simp only [noA0, Bool.and_eq_true] at h0
    exact ⟨Nat.eq_of_beq_eq_true h0.1, Nat.eq_of_beq_eq_true h0.2, rfl⟩
theorem VRel.slice_some {a : Addr} {n k : Nat} {v' : Value} (h : VRel μ (.slice (some a) n k) v') : a.spot = none ∧ ∃ a' k', v' = .slice (some a') n k' := by
  cases h with
  | atom _ h0 => simp [noA0] at h0
  | sliceC _ _ _ _ l hb ho => exact ⟨rfl, _, _, rfl⟩
  | sliceO _ _ o' _ _ k' e l hb ho h1 h2 h3 h4 => exact ⟨rfl, _, _, rfl⟩
end

/-! Memory. -/
def ObjRel (μ : Emb) (w : World) (l : Loc) : AObj → Prop
  | .cells cs opn true => l.opn = opn ∧ opn = none ∧ l.c < w.heap.size ∧ ∀ (i : Nat) v, cs[i]? = some v → ∃ v', w.cell? ⟨l.c, l.sh + i, none⟩ = some v' ∧ VRel μ v v'
  | .cells cs opn false => l.opn = opn ∧ ∃ (ccs : Array Value) (e : TypeId), w.heap[l.c]? = some (.cells ccs e (0, 0)) ∧ ccs.size = l.csz ∧ l.sh + cs.length ≤ l.csz ∧
      ∀ (i : Nat) v, cs[i]? = some v → ∃ v', ccs[l.sh + i]? = some v' ∧ VRel μ v v'
  | .iter s pos => l.sh = 0 ∧ w.heap[l.c]? = some (.stringIter s pos)
  | .tab es => ∃ (ces : Array MapEntry) (clock : Nat), w.heap[l.c]? = some (.map ces clock) ∧ es.length = ces.toList.length ∧
      ∀ (i : Nat) x y, es[i]? = some x → ces.toList[i]? = some y → VRel μ x.1 y.key ∧ VRel μ x.2 y.val
  | .dead => True

structure WRel (μ : Emb) (H : Heap) (w : World) : Prop where
  obj : ∀ b l o, μ b = some l → H.get b = some o → ObjRel μ w l o
  inj : ∀ b1 b2 l1 l2 o1 o2, b1 ≠ b2 → μ b1 = some l1 → μ b2 = some l2 → H.get b1 = some o1 → H.get b2 = some o2 → o1.rw = true → o2.live = true → l1.c ≠ l2.c

theorem lt_of_heap {w : World} {c : Nat} {o : Obj} (h : w.heap[c]? = some o) : c < w.heap.size := (Array.getElem?_eq_some_iff.1 h).1

theorem ObjRel.lt {μ : Emb} {w : World} {l : Loc} {o : AObj} (h : ObjRel μ w l o) (ho : o.live = true) : l.c < w.heap.size := by
  cases o with
  | cells cs opn ro =>
    cases ro with
    | true => exact h.2.2.1
    | false => obtain ⟨_, ccs, e, hh, _⟩ := h; exact lt_of_heap hh
  | iter s pos => exact lt_of_heap h.2
  | tab es => obtain ⟨ces, clock, hh, _⟩ := h; exact lt_of_heap hh
  | dead => simp [AObj.live] at ho

/-- A block's relation hangs on that block alone. -/
theorem ObjRel.keep {μ μ' : Emb} {w w' : World} {l : Loc} {o : AObj} (hm : ∀ b l, μ b = some l → μ' b = some l) (hs : w.heap.size ≤ w'.heap.size)
    (hc : o.live = true → w'.heap[l.c]? = w.heap[l.c]?) (h : ObjRel μ w l o) : ObjRel μ' w' l o := by
  cases o with
  | cells cs opn ro =>
    have hcc := hc rfl
    cases ro with
    | true =>
      obtain ⟨h1, h2, h3, h4⟩ := h
      refine ⟨h1, h2, by omega, fun i v hv => ?_⟩
      obtain ⟨v', hv', hr⟩ := h4 i v hv
      refine ⟨v', ?_, hr.mono hm⟩
      rw [← hv']
      simp only [World.cell?, hcc]
    | false =>
      obtain ⟨h1, ccs, e, hh, h2, h3, h4⟩ := h
      refine ⟨h1, ccs, e, hcc.trans hh, h2, h3, fun i v hv => ?_⟩
      obtain ⟨v', hv', hr⟩ := h4 i v hv
      exact ⟨v', hv', hr.mono hm⟩
  | iter s pos => exact ⟨h.1, (hc rfl).trans h.2⟩
  | tab es =>
    obtain ⟨ces, clock, hh, h2, h3⟩ := h
    refine ⟨ces, clock, (hc rfl).trans hh, h2, fun i x y hx hy => ?_⟩
    obtain ⟨r1, r2⟩ := h3 i x y hx hy
    exact ⟨r1.mono hm, r2.mono hm⟩
  | dead => trivial

theorem rw_live {o : AObj} (h : o.rw = true) : o.live = true := by cases o <;> simp_all [AObj.rw, AObj.live]

/-- From one state to a later one. -/
structure Post (μ : Emb) (H : Heap) (w : World) (μ' : Emb) (H' : Heap) (w' : World) : Prop where
  ext : ∀ b l, μ b = some l → μ' b = some l
  dom : ∀ b l, μ' b = some l → μ b = some l ∨ (H.next ≤ b ∧ b < H'.next)
  grow : w.heap.size ≤ w'.heap.size
  os : w'.os = w.os
  tape : w'.tape = w.tape
  out : w'.output = w.output
  keep : ∀ c, c < w.heap.size → (∀ b l o, μ b = some l → H.get b = some o → o.rw = true → l.c ≠ c) → w'.heap[c]? = w.heap[c]?
  img : ∀ b l o, μ' b = some l → H'.get b = some o → o.live = true → w.heap.size ≤ l.c ∨ ∃ b0 l0 o0, μ b0 = some l0 ∧ H.get b0 = some o0 ∧ o0.live = true ∧ (o.rw = true → o0.rw = true) ∧ l0.c = l.c
  wrel : WRel μ' H' w'

theorem Post.refl {μ : Emb} {H : Heap} {w : World} (h : WRel μ H w) : Post μ H w μ H w :=
  ⟨fun _ _ h => h, fun _ _ h => .inl h, Nat.le_refl _, rfl, rfl, rfl, fun _ _ _ => rfl, fun b l o h1 h2 h3 => .inr ⟨b, l, o, h1, h2, h3, id, rfl⟩, h⟩

theorem Post.trans {μ μ1 μ2 : Emb} {H H1 H2 : Heap} {w w1 w2 : World} (h : Post μ H w μ1 H1 w1) (k : Post μ1 H1 w1 μ2 H2 w2) (h1 : H.next ≤ H1.next) (h2 : H1.next ≤ H2.next) :
    Post μ H w μ2 H2 w2 := by
  refine ⟨fun b l hb => k.ext b l (h.ext b l hb), fun b l hb => ?_, Nat.le_trans h.grow k.grow, k.os.trans h.os, k.tape.trans h.tape, k.out.trans h.out, fun c hc hn => ?_, fun b l o hb ho hr => ?_, k.wrel⟩
  · rcases k.dom b l hb with hb1 | ⟨hb1, hb2⟩
    · rcases h.dom b l hb1 with hb0 | ⟨hb3, hb4⟩
      · exact .inl hb0
      · exact .inr ⟨hb3, by omega⟩
    · exact .inr ⟨by omega, hb2⟩
  · rw [k.keep c (Nat.lt_of_lt_of_le hc h.grow) ?_, h.keep c hc hn]
    intro b l o hb ho hr he
    rcases h.img b l o hb ho (rw_live hr) with hh | ⟨b0, l0, o0, g1, g2, g3, g5, g4⟩
    · omega
    · exact hn b0 l0 o0 g1 g2 (g5 hr) (g4.trans he)
  · rcases k.img b l o hb ho hr with hh | ⟨b0, l0, o0, g1, g2, g3, g5, g4⟩
    · exact .inl (Nat.le_trans h.grow hh)
    · rcases h.img b0 l0 o0 g1 g2 g3 with hh | ⟨b1, l1, o1, e1, e2, e3, e5, e4⟩
      · exact .inl (g4 ▸ hh)
      · exact .inr ⟨b1, l1, o1, e1, e2, e3, fun hx => e5 (g5 hx), e4.trans g4⟩

theorem WRel.drew {μ : Emb} {H : Heap} {w : World} (h : WRel μ H w) : WRel μ H w.drew :=
  ⟨fun b l o hb ho => (h.obj b l o hb ho).keep (fun _ _ h => h) (Nat.le_refl _) (fun _ => rfl), h.inj⟩
theorem Post.drew {μ : Emb} {H : Heap} {w : World} (h : WRel μ H w) : Post μ H w μ H w.drew :=
  ⟨fun _ _ h => h, fun _ _ h => .inl h, Nat.le_refl _, rfl, rfl, rfl, fun _ _ _ => rfl, fun b l o h1 h2 h3 => .inr ⟨b, l, o, h1, h2, h3, id, rfl⟩, h.drew⟩

def Emb.set (μ : Emb) (b : Nat) (l : Loc) : Emb := fun k => if k = b then some l else μ k
theorem Emb.set_same (μ : Emb) (b : Nat) (l : Loc) : μ.set b l b = some l := by simp [Emb.set]
theorem Emb.set_ext {μ : Emb} {b : Nat} (l : Loc) (h : μ b = none) : ∀ k x, μ k = some x → μ.set b l k = some x := by
  intro k x hk
  have : k ≠ b := fun e => by subst e; rw [h] at hk; cases hk
  simp [Emb.set, this, hk]
theorem Emb.set_inv {μ : Emb} {b : Nat} {l : Loc} {k : Nat} {x : Loc} (h : μ.set b l k = some x) : (k = b ∧ x = l) ∨ (k ≠ b ∧ μ k = some x) := by
  unfold Emb.set at h
  split at h
  · rename_i e; injection h with h; exact .inl ⟨e, h.symm⟩
  · rename_i e; exact .inr ⟨e, h⟩

theorem heap_push_lt (w : World) (o : Obj) {c : Nat} (h : c < w.heap.size) : (w.alloc o).heap[c]? = w.heap[c]? := by
  simp only [World.alloc, Array.getElem?_push]; rw [if_neg (by omega)]
theorem heap_push_new (w : World) (o : Obj) : (w.alloc o).heap[w.heap.size]? = some o := by
  show (w.heap.push o)[w.heap.size]? = some o
  simp

/-- A new block, on both sides. -/
theorem Post.push {μ : Emb} {H : Heap} {w : World} (h : WRel μ H w) (hf : μ H.next = none) (l : Loc) (hl : l.c = w.heap.size) (o : AObj) (co : Obj)
    (ho : ObjRel (μ.set H.next l) (w.alloc co) l o) : Post μ H w (μ.set H.next l) (H.push o) (w.alloc co) := by
  have hm := Emb.set_ext l hf
  refine ⟨hm, fun b x hb => ?_, by simp, rfl, rfl, rfl, fun c hc _ => heap_push_lt w co hc, fun b x o' hb ho' hr => ?_, ⟨fun b x o' hb ho' => ?_, fun b1 b2 l1 l2 o1 o2 hne hb1 hb2 ho1 ho2 hr1 hr2 => ?_⟩⟩
  · rcases Emb.set_inv hb with ⟨rfl, rfl⟩ | ⟨_, hb⟩
    · exact .inr ⟨Nat.le_refl _, by simp⟩
    · exact .inl hb
  · rcases Emb.set_inv hb with ⟨rfl, rfl⟩ | ⟨hne, hb⟩
    · exact .inl (by omega)
    · rw [Heap.get_push_ne H o (Ne.symm hne)] at ho'
      exact .inr ⟨b, x, o', hb, ho', hr, id, rfl⟩
  · rcases Emb.set_inv hb with ⟨rfl, rfl⟩ | ⟨hne, hb⟩
    · rw [Heap.get_push_same] at ho'; injection ho' with ho'; subst ho'; exact ho
    · rw [Heap.get_push_ne H o (Ne.symm hne)] at ho'
      have hr := h.obj b x o' hb ho'
      exact hr.keep hm (by simp) (fun hlv => heap_push_lt w co (hr.lt hlv))
  · rcases Emb.set_inv hb1 with ⟨e1, f1⟩ | ⟨hne1, hb1'⟩ <;> rcases Emb.set_inv hb2 with ⟨e2, f2⟩ | ⟨hne2, hb2'⟩
    · exact absurd (e1.trans e2.symm) hne
    · rw [Heap.get_push_ne H o (Ne.symm hne2)] at ho2
      have := (h.obj b2 l2 o2 hb2' ho2).lt hr2
      subst f1; omega
    · rw [Heap.get_push_ne H o (Ne.symm hne1)] at ho1
      have := (h.obj b1 l1 o1 hb1' ho1).lt (by cases o1 <;> simp_all [AObj.rw, AObj.live])
      subst f2; omega
    · rw [Heap.get_push_ne H o (Ne.symm hne1)] at ho1
      rw [Heap.get_push_ne H o (Ne.symm hne2)] at ho2
      exact h.inj b1 b2 l1 l2 o1 o2 hne hb1' hb2' ho1 ho2 hr1 hr2

/-- The world with one block turned. -/
def setObjAt (w : World) (c : Nat) (o : Obj) : World := { w with heap := w.heap.setIfInBounds c o }
theorem setObjAt_get_ne (w : World) {c k : Nat} (o : Obj) (h : c ≠ k) : (setObjAt w c o).heap[k]? = w.heap[k]? := by
  simp [setObjAt, Array.getElem?_setIfInBounds_ne h]
theorem setObjAt_get_same (w : World) {c : Nat} (o : Obj) (h : c < w.heap.size) : (setObjAt w c o).heap[c]? = some o := by
  simp [setObjAt, h]
@[simp] theorem setObjAt_size (w : World) (c : Nat) (o : Obj) : (setObjAt w c o).heap.size = w.heap.size := by simp [setObjAt]

/-- A written block, on both sides. -/
theorem Post.put {μ : Emb} {H : Heap} {w : World} (h : WRel μ H w) {b : Nat} {l : Loc} {o : AObj} (hb : μ b = some l) (ho : H.get b = some o) (hr : o.rw = true)
    (o' : AObj) (hr' : o'.rw = true) (co : Obj) (hn : ObjRel μ (setObjAt w l.c co) l o') : Post μ H w μ (H.put b o') (setObjAt w l.c co) := by
  refine ⟨fun _ _ h => h, fun _ _ h => .inl h, by simp, rfl, rfl, rfl, fun c hc hnot => setObjAt_get_ne w co (hnot b l o hb ho hr), fun k x ox hk hox hrx => ?_, ⟨fun k x ox hk hox => ?_, fun b1 b2 l1 l2 o1 o2 hne hb1 hb2 ho1 ho2 hr1 hr2 => ?_⟩⟩
  · by_cases e : b = k
    · subst e; rw [hb] at hk; injection hk with hk; subst hk; exact .inr ⟨b, l, o, hb, ho, rw_live hr, fun _ => hr, rfl⟩
    · rw [Heap.get_put_ne H o' e] at hox; exact .inr ⟨k, x, ox, hk, hox, hrx, id, rfl⟩
  · by_cases e : b = k
    · subst e
      rw [hb] at hk; injection hk with hk; subst hk
      rw [Heap.get_put_same] at hox; injection hox with hox; subst hox; exact hn
    · rw [Heap.get_put_ne H o' e] at hox
      have hx := h.obj k x ox hk hox
      exact hx.keep (fun _ _ h => h) (by simp) (fun hlv => setObjAt_get_ne w co (h.inj b k l x o ox e hb hk ho hox hr hlv))
  · have old : ∀ k ok lk, μ k = some lk → (H.put b o').get k = some ok → ∃ oo, H.get k = some oo ∧ (ok.rw = true → oo.rw = true) ∧ (ok.live = true → oo.live = true) := by
      intro k ok lk hk hok
      by_cases e : b = k
      · subst e; exact ⟨o, ho, fun _ => hr, fun _ => by cases o <;> simp_all [AObj.rw, AObj.live]⟩
      · rw [Heap.get_put_ne H o' e] at hok; exact ⟨ok, hok, id, id⟩
    obtain ⟨p1, q1, r1, _⟩ := old b1 o1 l1 hb1 ho1
    obtain ⟨p2, q2, _, r2⟩ := old b2 o2 l2 hb2 ho2
    exact h.inj b1 b2 l1 l2 p1 p2 hne hb1 hb2 q1 q2 (r1 hr1) (r2 hr2)

/-- A block that append used up: the new block lies where the old one lay. -/
theorem Post.take {μ : Emb} {H : Heap} {w : World} (h : WRel μ H w) {b : Nat} {l : Loc} {o : AObj} (hb : μ b = some l) (ho : H.get b = some o) (hr : o.rw = true)
    (hf : μ H.next = none) (l' : Loc) (hl : l'.c = l.c) (o' : AObj) (co : Obj) (hn : ObjRel (μ.set H.next l') (setObjAt w l.c co) l' o') :
    Post μ H w (μ.set H.next l') ((H.put b .dead).push o') (setObjAt w l.c co) := by
  have hm := Emb.set_ext l' hf
  have hbn : b ≠ H.next := fun e => by subst e; rw [hf] at hb; cases hb
  have get : ∀ k, k ≠ H.next → ((H.put b .dead).push o').get k = (H.put b .dead).get k := fun k hk => Heap.get_push_ne (H.put b .dead) o' (Ne.symm hk)
  have gnew : ((H.put b .dead).push o').get H.next = some o' := Heap.get_push_same (H.put b .dead) o'
  refine ⟨hm, fun k x hk => ?_, by simp, rfl, rfl, rfl, fun c hc hnot => setObjAt_get_ne w co (hnot b l o hb ho hr), fun k x ox hk hox hrx => ?_, ⟨fun k x ox hk hox => ?_, fun b1 b2 l1 l2 o1 o2 hne hb1 hb2 ho1 ho2 hr1 hr2 => ?_⟩⟩
  · rcases Emb.set_inv hk with ⟨rfl, rfl⟩ | ⟨_, hk⟩
    · exact .inr ⟨Nat.le_refl _, by simp⟩
    · exact .inl hk
  · rcases Emb.set_inv hk with ⟨rfl, rfl⟩ | ⟨hne, hk⟩
    · exact .inr ⟨b, l, o, hb, ho, rw_live hr, fun _ => hr, hl.symm⟩
    · rw [get k hne] at hox
      by_cases e : b = k
      · subst e; rw [Heap.get_put_same] at hox; injection hox with hox; subst hox; simp [AObj.live] at hrx
      · rw [Heap.get_put_ne H _ e] at hox; exact .inr ⟨k, x, ox, hk, hox, hrx, id, rfl⟩
  · rcases Emb.set_inv hk with ⟨rfl, rfl⟩ | ⟨hne, hk⟩
    · rw [gnew] at hox; injection hox with hox; subst hox; exact hn
    · rw [get k hne] at hox
      by_cases e : b = k
      · subst e; rw [Heap.get_put_same] at hox; injection hox with hox; subst hox; trivial
      · rw [Heap.get_put_ne H _ e] at hox
        have hx := h.obj k x ox hk hox
        exact hx.keep hm (by simp) (fun hlv => setObjAt_get_ne w co (h.inj b k l x o ox e hb hk ho hox hr hlv))
  · have old : ∀ k ok, k ≠ H.next → ok.live = true → ((H.put b .dead).push o').get k = some ok → k ≠ b ∧ H.get k = some ok := by
      intro k ok hk hlv hok
      rw [get k hk] at hok
      by_cases e : b = k
      · subst e; rw [Heap.get_put_same] at hok; injection hok with hok; subst hok; simp [AObj.live] at hlv
      · rw [Heap.get_put_ne H _ e] at hok; exact ⟨Ne.symm e, hok⟩
    have live_of : ∀ {x : AObj}, x.rw = true → x.live = true := by intro x hx; cases x <;> simp_all [AObj.rw, AObj.live]
    rcases Emb.set_inv hb1 with ⟨e1, f1⟩ | ⟨hne1, hb1'⟩ <;> rcases Emb.set_inv hb2 with ⟨e2, f2⟩ | ⟨hne2, hb2'⟩
    · exact absurd (e1.trans e2.symm) hne
    · obtain ⟨n2, g2⟩ := old b2 o2 hne2 hr2 ho2
      rw [f1, hl]; exact h.inj b b2 l l2 o o2 (Ne.symm n2) hb hb2' ho g2 hr hr2
    · obtain ⟨n1, g1⟩ := old b1 o1 hne1 (live_of hr1) ho1
      rw [f2, hl]; exact fun e => h.inj b b1 l l1 o o1 (Ne.symm n1) hb hb1' ho g1 hr (live_of hr1) e.symm
    · obtain ⟨_, g1⟩ := old b1 o1 hne1 (live_of hr1) ho1
      obtain ⟨_, g2⟩ := old b2 o2 hne2 hr2 ho2
      exact h.inj b1 b2 l1 l2 o1 o2 hne hb1' hb2' g1 g2 hr1 hr2
end Go.R
