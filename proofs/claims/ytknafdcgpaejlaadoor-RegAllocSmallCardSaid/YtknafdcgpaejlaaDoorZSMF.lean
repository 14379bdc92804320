/-
 Ascending lists of live registers: unions, differences, bounds, plain laws. No condition beyond those that each statement names.
-/
import Derived.Test.YtknafdcgpaejlaaDoorZSMD
noncomputable section
namespace Go.Proofs.YtknafdcgpaejlaaDoor.mf
open Go.R
set_option maxRecDepth 10000
set_option linter.unusedVariables false
set_option linter.unusedSimpArgs false
open m1 m2 m3 m4 m5 m6 ma ml mb mc md
theorem lin_lt {c : VFnT} (v : VF c) {b r : Nat} (h : LIn c b r) : (r : Int) < c.regs := by
 refine h (fun _ r => (r : Int) < c.regs) fun b hb r hr => ?_
 have key : ∀ (l : List VInT), (∀ w ∈ l, eP c.params c.regs w = true) → ∀ r, tr l (endS (bz c b) (outS c (fun _ r => (r : Int) < c.regs) b)) r → (r : Int) < c.regs := by
  intro l
  induction l with
  | nil =>
   intro _ r hr
   rcases hr with ⟨t, _, A⟩ | A
   ·
    exact A
   unfold endV at A
   split at A
   ·
    rename_i hf; rw [List.mem_singleton] at A; have := v.fin b hb hf; omega
   cases A
  | cons w l ih =>
   intro hw r hr
   rcases hr with hr | hr
   ·
    exact ((cb (hw w (List.mem_cons_self ..))).1 _ hr).2
   exact ih (fun x hx => hw x (List.mem_cons_of_mem _ hx)) r hr.1
 refine key _ (fun w hw => ?_) r hr
 obtain ⟨i, hi, rfl⟩ := List.mem_iff_getElem.1 hw
 have := v.ins b hb i hi
 rwa [List.getD_eq_getElem?_getD, List.getElem?_eq_getElem hi] at this
theorem lout_lt {c : VFnT} (v : VF c) {b r : Nat} (h : LOut c b r) : (r : Int) < c.regs := by
 obtain ⟨t, _, A⟩ := h
 exact lin_lt v A
theorem tr_lt {c : VFnT} (v : VF c) {b : Nat} (hb : b < c.blocks.length) : ∀ (l : List VInT), (∀ w ∈ l, w ∈ (bz c b).ins) → ∀ r, tr l (endS (bz c b) (LOut c b)) r → (r : Int) < c.regs := by
 intro l
 induction l with
 | nil =>
  intro _ r hr
  rcases hr with A | A
  ·
   exact lout_lt v A
  unfold endV at A
  split at A
  ·
   rename_i hf; rw [List.mem_singleton] at A; have := v.fin b hb hf; omega
  cases A
 | cons w l ih =>
  intro hw r hr
  rcases hr with hr | hr
  ·
   obtain ⟨i, hi, he⟩ := List.mem_iff_getElem.1 (hw w (List.mem_cons_self ..))
   have := v.ins b hb i hi
   rw [List.getD_eq_getElem?_getD, List.getElem?_eq_getElem hi, Option.getD_some, he] at this
   exact ((cb this).1 _ hr).2
  exact ih (fun x hx => hw x (List.mem_cons_of_mem _ hx)) r hr.1
theorem jr {c : VFnT} (v : VF c) {b i r : Nat} (hb : b < c.blocks.length) (h : ptS c b i r) : (r : Int) < c.regs := tr_lt v hb _ (fun w hw => List.mem_of_mem_drop hw) r h
theorem asc_len {m : Int} : ∀ {l : List Int} (lo : Int), lo ≤ m → Asc l → (∀ x ∈ l, lo ≤ x ∧ x < m) → (l.length : Int) ≤ m - lo
 | [], lo, h, _, _ => by simp; omega
 | x :: l, lo, _, ha, hb => by
  have A := List.pairwise_cons.1 ha
  have E := hb x (List.mem_cons_self ..)
  have := asc_len (l := l) (x + 1) (by omega) A.2 fun y hy => ⟨by have := A.1 y hy; omega, (hb y (List.mem_cons_of_mem _ hy)).2⟩
  rw [List.length_cons]; omega
theorem Lst.len {l : List Int} {S : Nat → Prop} {m : Int} (h : Lst l S) (hm : 0 ≤ m) (hb : ∀ r, S r → (r : Int) < m) : (l.length : Int) ≤ m := by
 have := asc_len 0 hm h.asc fun x hx => by
  obtain ⟨A, E⟩ := (h.mem x).1 hx
  have := hb _ E
  exact ⟨A, by omega⟩
 omega
theorem Lst.nil {S : Nat → Prop} (h : ∀ r, ¬ S r) : Lst [] S := ⟨List.Pairwise.nil, fun x => ⟨fun hx => (by cases hx), fun hx => absurd hx.2 (h _)⟩⟩
theorem iq {l : List Int} {n : Int} : jd l n = true ↔ n ∈ l := by
 unfold jd
 rw [List.any_eq_true]
 constructor
 ·
  rintro ⟨x, A, E⟩; have := of_decide_eq_true E; subst this; exact A
 exact fun h => ⟨n, h, decide_eq_true rfl⟩
theorem Lst.minus {a w : List Int} {S : Nat → Prop} (h : Lst a S) : Lst (minV a w) (fun r => S r ∧ (r : Int) ∉ w) := ⟨h.asc.sublist List.filter_sublist, fun x => by
 unfold minV
 rw [List.mem_filter, h.mem]
 simp only [Bool.not_eq_true', Bool.eq_false_iff, ne_eq, iq]
 constructor
 ·
  rintro ⟨⟨A, E⟩, I⟩; exact ⟨A, E, by rw [show ((x.toNat : Nat) : Int) = x by omega]; exact I⟩
 rintro ⟨A, E, I⟩; exact ⟨⟨A, E⟩, by rwa [show ((x.toNat : Nat) : Int) = x by omega] at I⟩⟩
def enS (c : VFnT) (b q : Nat) (r : Nat) : Prop := ∃ t ∈ (br (bz c b)).take q, LIn c t.toNat r
end Go.Proofs.YtknafdcgpaejlaaDoor.mf
