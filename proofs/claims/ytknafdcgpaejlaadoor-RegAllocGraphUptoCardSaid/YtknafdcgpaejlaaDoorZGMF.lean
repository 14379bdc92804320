/-
 Ascending lists of live registers: unions, differences, bounds, plain laws. No condition beyond those that each statement names.
-/
import Derived.Test.YtknafdcgpaejlaaDoorZGMD
noncomputable section
namespace Go.Proofs.YtknafdcgpaejlaaDoor.mf
open Go.R
set_option maxRecDepth 10000
set_option linter.unusedVariables false
set_option linter.unusedSimpArgs false
open m1 m2 m3 m4 m5 m6 ma ml mb mc md
theorem lin_lt {c : VFnT} (v : VF c) {b r : Nat} (h : LIn c b r) : (r : Int) < c.regs := by
 refine h (fun _ r => (r : Int) < c.regs) fun b hb r hr => ?_
 have key : ∀ (l : List VInT), (∀ w ∈ l, eI c.params c.regs w = true) → ∀ r, tr l (endS (bQ c b) (outS c (fun _ r => (r : Int) < c.regs) b)) r → (r : Int) < c.regs := by
  intro l
  induction l with
  | nil =>
   intro _ r hr
   rcases hr with ⟨t, _, z⟩ | z
   ·
    exact z
   unfold df at z
   split at z
   ·
    rename_i hf; rw [a0e] at z; have := v.fin b hb hf; omega
   cases z
  | cons w l ih =>
   intro hw r hr
   rcases hr with hr | hr
   ·
    exact ((bR (hw w (a0A ..))).1 _ hr).2
   exact ih (fun x hx => hw x (a0j _ hx)) r hr.1
 refine key _ (fun w hw => ?_) r hr
 obtain ⟨i, hi, rfl⟩ := a0D.1 hw
 have := v.ins b hb i hi
 rwa [a01, a03 hi] at this
theorem gx {c : VFnT} (v : VF c) {b r : Nat} (h : LOut c b r) : (r : Int) < c.regs := by
 obtain ⟨t, _, z⟩ := h
 exact lin_lt v z
theorem tr_lt {c : VFnT} (v : VF c) {b : Nat} (hb : b < c.blocks.length) : ∀ (l : List VInT), (∀ w ∈ l, w ∈ (bQ c b).ins) → ∀ r, tr l (endS (bQ c b) (LOut c b)) r → (r : Int) < c.regs := by
 intro l
 induction l with
 | nil =>
  intro _ r hr
  rcases hr with z | z
  ·
   exact gx v z
  unfold df at z
  split at z
  ·
   rename_i hf; rw [a0e] at z; have := v.fin b hb hf; omega
  cases z
 | cons w l ih =>
  intro hw r hr
  rcases hr with hr | hr
  ·
   obtain ⟨i, hi, he⟩ := a0D.1 (hw w (a0A ..))
   have := v.ins b hb i hi
   rw [a01, a03 hi, a0Q, he] at this
   exact ((bR this).1 _ hr).2
  exact ih (fun x hx => hw x (a0j _ hx)) r hr.1
theorem pt_lt {c : VFnT} (v : VF c) {b i r : Nat} (hb : b < c.blocks.length) (h : ptS c b i r) : (r : Int) < c.regs := tr_lt v hb _ (fun w hw => a21 hw) r h
theorem jg {m : Int} : ∀ {l : List Int} (lo : Int), lo ≤ m → Asc l → (∀ x ∈ l, lo ≤ x ∧ x < m) → (l.length : Int) ≤ m - lo
 | [], lo, h, _, _ => by simp; omega
 | x :: l, lo, _, ha, hb => by
  have z := a1u.1 ha
  have A := hb x (a0A ..)
  have := jg (l := l) (x + 1) (by omega) z.2 fun y hy => ⟨by have := z.1 y hy; omega, (hb y (a0j _ hy)).2⟩
  rw [a0a]; omega
theorem Lst.len {l : List Int} {S : Nat → Prop} {m : Int} (h : Lst l S) (hm : 0 ≤ m) (hb : ∀ r, S r → (r : Int) < m) : (l.length : Int) ≤ m := by
 have := jg 0 hm h.asc fun x hx => by
  obtain ⟨z, A⟩ := (h.mem x).1 hx
  have := hb _ A
  exact ⟨z, by omega⟩
 omega
theorem Lst.nil {S : Nat → Prop} (h : ∀ r, ¬ S r) : Lst [] S := ⟨List.Pairwise.nil, fun x => ⟨fun hx => (by cases hx), fun hx => absurd hx.2 (h _)⟩⟩
theorem Lst.addL {a l : List Int} {S : Nat → Prop} (h : Lst a S) (hl : ∀ x ∈ l, 0 ≤ x) : Lst (cR a l) (fun r => S r ∨ (r : Int) ∈ l) := ⟨uni_asc h.asc, fun x => by
 rw [uni_mem, h.mem]
 constructor
 ·
  rintro (z | z)
  ·
   exact ⟨z.1, .inl z.2⟩
  have := hl x z
  exact ⟨this, .inr (by rw [show ((x.toNat : Nat) : Int) = x by omega]; exact z)⟩
 rintro ⟨z, A | A⟩
 ·
  exact .inl ⟨z, A⟩
 exact .inr (by rwa [show ((x.toNat : Nat) : Int) = x by omega] at A)⟩
theorem Lst.union {a l : List Int} {S S' : Nat → Prop} (h : Lst a S) (k : Lst l S') : Lst (cR a l) (fun r => S r ∨ S' r) := by
 have E := Lst.addL (l := l) h fun x hx => ((k.mem x).1 hx).1
 refine ⟨E.asc, fun x => ?_⟩
 rw [E.mem]
 constructor
 ·
  rintro ⟨A, z | z⟩
  ·
   exact ⟨A, .inl z⟩
  exact ⟨A, .inr (((k.mem _).1 z).2)⟩
 rintro ⟨A, z | z⟩
 ·
  exact ⟨A, .inl z⟩
 exact ⟨A, .inr ((k.mem _).2 ⟨by omega, z⟩)⟩
theorem i8 {l : List Int} {n : Int} : gc l n = true ↔ n ∈ l := by
 unfold gc
 rw [List.any_eq_true]
 constructor
 ·
  rintro ⟨x, z, A⟩; have := of_decide_eq_true A; subst this; exact z
 exact fun h => ⟨n, h, decide_eq_true rfl⟩
theorem Lst.minus {a w : List Int} {S : Nat → Prop} (h : Lst a S) : Lst (jk a w) (fun r => S r ∧ (r : Int) ∉ w) := ⟨h.asc.sublist List.filter_sublist, fun x => by
 unfold jk
 rw [a26, h.mem]
 simp only [a0L, a1k, ne_eq, i8]
 constructor
 ·
  rintro ⟨⟨z, A⟩, E⟩; exact ⟨z, A, by rw [show ((x.toNat : Nat) : Int) = x by omega]; exact E⟩
 rintro ⟨z, A, E⟩; exact ⟨⟨z, A⟩, by rwa [show ((x.toNat : Nat) : Int) = x by omega] at E⟩⟩
def enS (c : VFnT) (b q : Nat) (r : Nat) : Prop := ∃ t ∈ (aW (bQ c b)).take q, LIn c t.toNat r
end Go.Proofs.YtknafdcgpaejlaaDoor.mf
