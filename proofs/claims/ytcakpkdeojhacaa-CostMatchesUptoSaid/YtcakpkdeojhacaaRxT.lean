/-
  What cells stand for: integers, strings, records, lists; slices that are read, slices that are owned.
  No condition beyond those that each statement names.
-/
import Derived.Test.YtcakpkdeojhacaaRxH
noncomputable section
namespace Go.R

class Rp (α : Type) where
  sz : Nat
  rep : Fz → List Value → α → Prop
  len : ∀ {F : Fz} {cs : List Value} {x : α}, rep F cs x → cs.length = sz
  one : ∀ {F : Fz} {cs : List Value} {x : α}, rep F cs x → allL Value.oneCell' cs = true
  mono : ∀ {F F' : Fz} {cs : List Value} {x : α}, F.le F' → rep F cs x → rep F' cs x

def RL {α : Type} [Rp α] (F : Fz) : List Value → List α → Prop
  | cs, [] => cs = []
  | cs, x :: l => ∃ c r, cs = c ++ r ∧ Rp.rep F c x ∧ RL F r l

theorem allL_app {p : Value → Bool} (a b : List Value) : allL p (a ++ b) = (allL p a && allL p b) := by simp only [allL_eq, List.all_append]

section
variable {α : Type} [Rp α] {F F' : Fz}

theorem RL.length : ∀ {l : List α} {cs : List Value}, RL F cs l → cs.length = l.length * Rp.sz α
  | [], cs, h => by simp only [RL] at h; subst h; simp
  | x :: l, cs, h => by
    obtain ⟨c, r, rfl, h1, h2⟩ := h
    rw [List.length_append, Rp.len h1, RL.length h2, List.length_cons, Nat.succ_mul, Nat.add_comm]
theorem RL.mono (hF : F.le F') : ∀ {l : List α} {cs : List Value}, RL F cs l → RL F' cs l
  | [], _, h => h
  | _ :: _, _, ⟨c, r, e, h1, h2⟩ => ⟨c, r, e, Rp.mono hF h1, RL.mono hF h2⟩
theorem RL.one : ∀ {l : List α} {cs : List Value}, RL F cs l → allL Value.oneCell' cs = true
  | [], cs, h => by simp only [RL] at h; subst h; rfl
  | x :: l, cs, h => by
    obtain ⟨c, r, rfl, h1, h2⟩ := h
    rw [allL_app, Rp.one h1, RL.one h2]; rfl
theorem RL.append : ∀ {l m : List α} {cs ds : List Value}, RL F cs l → RL F ds m → RL F (cs ++ ds) (l ++ m)
  | [], _, cs, _, h, k => by simp only [RL] at h; subst h; exact k
  | _ :: _, _, _, _, ⟨c, r, e, h1, h2⟩, k => ⟨c, _, by rw [e, List.append_assoc], h1, RL.append h2 k⟩
theorem RL.single {x : α} {c : List Value} (h : Rp.rep F c x) : RL F c [x] := ⟨c, [], by simp, h, rfl⟩
theorem RL.take : ∀ {l : List α} {cs : List Value} (n : Nat), RL F cs l → RL F (cs.take (n * Rp.sz α)) (l.take n)
  | l, cs, 0, h => by simp [RL]
  | [], cs, n + 1, h => by simp only [RL] at h; subst h; simp [RL]
  | x :: l, cs, n + 1, h => by
    obtain ⟨c, r, rfl, h1, h2⟩ := h
    refine ⟨c, r.take (n * Rp.sz α), ?_, h1, RL.take n h2⟩
    rw [List.take_append, Rp.len h1]
    have e1 : List.take ((n + 1) * Rp.sz α) c = c := List.take_of_length_le (by rw [Rp.len h1, Nat.succ_mul]; omega)
    have e2 : (n + 1) * Rp.sz α - Rp.sz α = n * Rp.sz α := by rw [Nat.succ_mul]; omega
    rw [e1, e2]
theorem RL.drop : ∀ {l : List α} {cs : List Value} (n : Nat), RL F cs l → RL F (cs.drop (n * Rp.sz α)) (l.drop n)
  | l, cs, 0, h => by simpa using h
  | [], cs, n + 1, h => by simp only [RL] at h; subst h; simp [RL]
  | x :: l, cs, n + 1, h => by
    obtain ⟨c, r, rfl, h1, h2⟩ := h
    have := RL.drop n h2
    rw [List.drop_append, Rp.len h1]
    have e1 : List.drop ((n + 1) * Rp.sz α) c = [] := List.drop_eq_nil_of_le (by rw [Rp.len h1, Nat.succ_mul]; omega)
    have e2 : (n + 1) * Rp.sz α - Rp.sz α = n * Rp.sz α := by rw [Nat.succ_mul]; omega
    rw [e1, e2]; exact this
theorem RL.head {l : List α} {x : α} {cs : List Value} (h : RL F cs (x :: l)) : Rp.rep F (cs.take (Rp.sz α)) x := by
  obtain ⟨c, r, rfl, h1, _⟩ := h
  rw [List.take_append, Rp.len h1, Nat.sub_self, List.take_zero, List.append_nil, List.take_of_length_le (by rw [Rp.len h1]; omega)]
  exact h1
theorem RL.at {l : List α} {cs : List Value} {j : Nat} {x : α} (h : RL F cs l) (hx : l[j]? = some x) : Rp.rep F ((cs.drop (j * Rp.sz α)).take (Rp.sz α)) x := by
  have h1 := h.drop j
  have hj := (List.getElem?_eq_some_iff.1 hx).1
  have h2 : l.drop j = x :: l.drop (j + 1) := by
    rw [List.drop_eq_getElem_cons hj]; congr 1; exact (List.getElem?_eq_some_iff.1 hx).2
  rw [h2] at h1
  exact h1.head
theorem splice_eq (cs vs : List Value) (o : Nat) (h : o + vs.length ≤ cs.length) : splice cs o vs = cs.take o ++ vs ++ cs.drop (o + vs.length) := by
  apply List.ext_getElem?
  intro i
  rw [splice_get cs o vs i h]
  simp only [List.append_assoc, List.getElem?_append, List.length_take, List.getElem?_take, List.getElem?_drop]
  have e : min o cs.length = o := by omega
  rw [e]
  by_cases h1 : i < o
  · rw [if_pos h1, if_neg (by omega)]; simp [h1]
  · rw [if_neg h1]
    by_cases h2 : i < o + vs.length
    · rw [if_pos (by omega), if_pos (by omega)]
    · rw [if_neg (by omega), if_neg (by omega)]; congr 1; omega
theorem RL.set {l : List α} {cs c : List Value} {j : Nat} {x : α} (h : RL F cs l) (hj : j < l.length) (hc : Rp.rep F c x) : RL F (splice cs (j * Rp.sz α) c) (l.set j x) := by
  have hl := h.length
  have hb : j * Rp.sz α + Rp.sz α ≤ cs.length := by rw [hl, ← Nat.succ_mul]; exact Nat.mul_le_mul_right _ hj
  rw [splice_eq _ _ _ (by rw [Rp.len hc]; exact hb), List.set_eq_take_append_cons_drop, if_pos hj, Rp.len hc, List.append_assoc]
  refine (h.take j).append ?_
  refine ⟨c, _, rfl, hc, ?_⟩
  have := h.drop (j + 1)
  rw [Nat.succ_mul] at this; exact this
theorem RL.replicate {z : List Value} {x : α} (h : Rp.rep F z x) : ∀ n, RL F (copies n z) (List.replicate n x)
  | 0 => rfl
  | n + 1 => ⟨z, copies n z, rfl, h, RL.replicate h n⟩

/-- A list in a block's cells. -/
def Sl (F : Fz) (o : AObj) (off k : Nat) (l : List α) : Prop := ∃ cs opn ro, o = .cells cs opn ro ∧ (ro = false → off + k * Rp.sz α ≤ cs.length) ∧ l.length ≤ k ∧ RL F ((cs.drop off).take (l.length * Rp.sz α)) l ∧ (opn = none ∨ opn = some (Rp.sz α))
/-- A slice that may be read. -/
def Sv (F : Fz) (get : Nat → Option AObj) (v : Value) (l : List α) : Prop :=
  (v = .slice none 0 0 ∧ l = []) ∨ ∃ b off k o, v = .slice (some ⟨b, off, none⟩) l.length k ∧ get b = some o ∧ Sl F o off k l
/-- A frozen slice. -/
def SR (F : Fz) (v : Value) (l : List α) : Prop := Sv F F v l
/-- An owned slice. -/
def OS (F : Fz) (v : Value) (l : List α) (p : Fp) : Prop :=
  (v = .slice none 0 0 ∧ l = [] ∧ p = []) ∨ ∃ b off k cs opn, v = .slice (some ⟨b, off, none⟩) l.length k ∧ p = [(b, .cells cs opn false)] ∧ Sl F (.cells cs opn false) off k l

theorem Sl.mono (hF : F.le F') {o : AObj} {off k : Nat} {l : List α} (h : Sl F o off k l) : Sl F' o off k l := by
  obtain ⟨cs, opn, ro, h1, h2, h3, h4, h5⟩ := h
  exact ⟨cs, opn, ro, h1, h2, h3, h4.mono hF, h5⟩
theorem SR.mono (hF : F.le F') {v : Value} {l : List α} (h : SR F v l) : SR F' v l := by
  rcases h with h | ⟨b, off, k, o, h1, h2, h3⟩
  · exact .inl h
  · exact .inr ⟨b, off, k, o, h1, hF _ _ h2, h3.mono hF⟩
theorem OS.mono (hF : F.le F') {v : Value} {l : List α} {p : Fp} (h : OS F v l p) : OS F' v l p := by
  rcases h with h | ⟨b, off, k, cs, opn, h1, h2, h3⟩
  · exact .inl h
  · exact .inr ⟨b, off, k, cs, opn, h1, h2, h3.mono hF⟩
theorem SR.nil : SR F (.slice none 0 0) ([] : List α) := .inl ⟨rfl, rfl⟩
theorem OS.nil : OS F (.slice none 0 0) ([] : List α) [] := .inl ⟨rfl, rfl, rfl⟩
variable {B : Base} {H : Heap} {L R : List Fp} {v : Value} {l : List α} {p : Fp}
theorem SR.sv (h : SR F v l) (hs : HS B F H L R) : Sv F H.get v l := by
  rcases h with h | ⟨b, off, k, o, h1, h2, h3⟩
  · exact .inl h
  · exact .inr ⟨b, off, k, o, h1, (hs.fz b o h2).1, h3⟩
theorem OS.sv (h : OS F v l p) (hs : HS B F H L R) {i : Nat} (hi : L[i]? = some p) : Sv F H.get v l := by
  rcases h with ⟨h1, h2, _⟩ | ⟨b, off, k, cs, opn, h1, h2, h3⟩
  · exact .inl ⟨h1, h2⟩
  · exact .inr ⟨b, off, k, _, h1, hs.get hi (by rw [h2]; simp), h3⟩
/-- An owned slice is frozen. -/
theorem OS.freeze (h : OS F v l p) (hs : HS B F H L R) {i : Nat} (hi : L[i]? = some p) : ∃ F', F.le F' ∧ HS B F' H (L.set i []) R ∧ SR F' v l := by
  obtain ⟨F', h1, h2, h3⟩ := hs.freeze hi
  refine ⟨F', h1, h2, ?_⟩
  rcases h with ⟨h4, h5, _⟩ | ⟨b, off, k, cs, opn, h4, h5, h6⟩
  · exact .inl ⟨h4, h5⟩
  · exact .inr ⟨b, off, k, _, h4, h3 b _ (by rw [h5]; simp), h6.mono h1⟩

def sB : Value → Nat
  | .slice (some a) _ _ => a.block
  | _ => 0
def sO : Value → Nat
  | .slice (some a) _ _ => a.off
  | _ => 0
/-- Cells that lie somewhere. -/
def HC (get : Nat → Option AObj) (b o : Nat) (cs : List Value) : Prop := ∃ all opn ro, get b = some (.cells all opn ro) ∧ (all.drop o).take cs.length = cs
theorem HC.fz {b o : Nat} {cs : List Value} (h : HC F b o cs) (hs : HS B F H L R) : HC H.get b o cs := by
  obtain ⟨all, opn, ro, h1, h2⟩ := h
  exact ⟨all, opn, ro, (hs.fz _ _ h1).1, h2⟩
theorem Sv.at {get : Nat → Option AObj} (h : Sv F get v l) {j : Nat} {x : α} (hx : l[j]? = some x) : ∃ cs, Rp.rep F cs x ∧ HC get (sB v) (sO v + j * Rp.sz α) cs := by
  rcases h with ⟨_, rfl⟩ | ⟨b, off, k, o, rfl, h2, cs, opn, ro, rfl, h3, h4, h5, h6⟩
  · simp at hx
  · have hj := (List.getElem?_eq_some_iff.1 hx).1
    have h7 := h5.at hx
    refine ⟨_, h7, cs, opn, ro, h2, ?_⟩
    rw [Rp.len h7]
    show (cs.drop (off + j * Rp.sz α)).take (Rp.sz α) = (((cs.drop off).take (l.length * Rp.sz α)).drop (j * Rp.sz α)).take (Rp.sz α)
    rw [List.drop_take, List.take_take, List.drop_drop]
    congr 1
    have : Rp.sz α ≤ l.length * Rp.sz α - j * Rp.sz α := by
      have := Nat.mul_le_mul_right (Rp.sz α) (show j + 1 ≤ l.length from hj)
      rw [Nat.succ_mul] at this; omega
    omega
theorem HC.get {get : Nat → Option AObj} {b o : Nat} {cs : List Value} (h : HC get b o cs) {i : Nat} {v : Value} (hv : cs[i]? = some v) : ∃ all opn ro, get b = some (.cells all opn ro) ∧ all[o + i]? = some v := by
  obtain ⟨all, opn, ro, h1, h2⟩ := h
  refine ⟨all, opn, ro, h1, ?_⟩
  rw [← h2, List.getElem?_take] at hv
  split at hv
  · rw [List.getElem?_drop] at hv; exact hv
  · cases hv
theorem HC.part {get : Nat → Option AObj} {b o : Nat} {cs : List Value} (h : HC get b o cs) {i n : Nat} (hn : i + n ≤ cs.length) : ∃ all opn ro, get b = some (.cells all opn ro) ∧ (all.drop (o + i)).take n = (cs.drop i).take n ∧ ((cs.drop i).take n).length = n := by
  obtain ⟨all, opn, ro, h1, h2⟩ := h
  refine ⟨all, opn, ro, h1, ?_, by rw [List.length_take, List.length_drop]; omega⟩
  have h3 : (((all.drop o).take cs.length).drop i).take n = (cs.drop i).take n := by rw [h2]
  rw [List.drop_take, List.take_take, List.drop_drop] at h3
  rw [show min n (cs.length - i) = n by omega] at h3
  exact h3
theorem HC.same {get : Nat → Option AObj} {b : Nat} {cs : List Value} {opn : Option Nat} {ro : Bool} (h : get b = some (.cells cs opn ro)) : HC get b 0 cs := ⟨cs, opn, ro, h, by simp⟩

/-! The kinds. -/
instance : Rp Int where
  sz := 1
  rep _ cs n := cs = [.int .i64 n] ∧ in64 n
  len := by rintro F cs x ⟨rfl, _⟩; rfl
  one := by rintro F cs x ⟨rfl, _⟩; rfl
  mono := by intro F F' cs x _ h; exact h
instance : Rp Bool where
  sz := 1
  rep _ cs n := cs = [.bool n]
  len := by rintro F cs x rfl; rfl
  one := by rintro F cs x rfl; rfl
  mono := by intro F F' cs x _ h; exact h
/-- A string's bytes. -/
structure Str where
  b : List UInt8
  deriving DecidableEq, Inhabited
instance : Rp Str where
  sz := 1
  rep _ cs s := cs = [.string ⟨⟨s.b⟩⟩]
  len := by rintro F cs x rfl; rfl
  one := by rintro F cs x rfl; rfl
  mono := by intro F F' cs x _ h; exact h
/-- A word without a sign. -/
structure U64 where
  n : Int
  deriving DecidableEq, Inhabited
instance : Rp U64 where
  sz := 1
  rep _ cs s := cs = [.int .u64 s.n] ∧ 0 ≤ s.n ∧ s.n < 18446744073709551616
  len := by rintro F cs x ⟨rfl, _⟩; rfl
  one := by rintro F cs x ⟨rfl, _⟩; rfl
  mono := by intro F F' cs x _ h; exact h
instance : Rp UInt8 where
  sz := 1
  rep _ cs s := cs = [.int .u8 s.toNat]
  len := by rintro F cs x rfl; rfl
  one := by rintro F cs x rfl; rfl
  mono := by intro F F' cs x _ h; exact h
theorem Sv.shape {get : Nat → Option AObj} {v : Value} {l : List α} (h : Sv F get v l) : ∃ a k, v = .slice a l.length k := by
  rcases h with ⟨rfl, rfl⟩ | ⟨b, off, k, o, rfl, _⟩
  · exact ⟨none, 0, rfl⟩
  · exact ⟨_, k, rfl⟩
theorem OS.shape {v : Value} {l : List α} {p : Fp} (h : OS F v l p) : ∃ a k, v = .slice a l.length k := by
  rcases h with ⟨rfl, rfl, _⟩ | ⟨b, off, k, cs, opn, rfl, _⟩
  · exact ⟨none, 0, rfl⟩
  · exact ⟨_, k, rfl⟩
instance : Rp (List α) where
  sz := 1
  rep F cs l := ∃ a k, cs = [.slice a l.length k] ∧ SR F (.slice a l.length k) l
  len := by rintro F cs x ⟨a, k, rfl, _⟩; rfl
  one := by rintro F cs x ⟨a, k, rfl, h⟩; rfl
  mono := by rintro F F' cs x hF ⟨a, k, rfl, h⟩; exact ⟨a, k, rfl, h.mono hF⟩
end
end Go.R
end
