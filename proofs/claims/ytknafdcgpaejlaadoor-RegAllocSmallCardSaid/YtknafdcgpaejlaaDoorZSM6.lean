/-
 Sets of registers as ascending lists, comparisons of results: the reference, function by function, each by a symbolic run. No condition but bounds on lengths.
-/
import Derived.Test.YtknafdcgpaejlaaDoorZSM5
noncomputable section
namespace Go.Proofs.YtknafdcgpaejlaaDoor.m6
open Go.R
set_option maxRecDepth 10000
set_option linter.unusedVariables false
set_option linter.unusedSimpArgs false
open m1 m2 m3 m4 m5
def gf (l : List Int) (n : Int) : Nat := (l.takeWhile (fun x => decide (x < n))).length
def fK (l : List Int) (n : Int) : List Int := if gf l n < l.length ∧ l.getD (gf l n) 0 = n then l else l.take (gf l n) ++ [n] ++ l.drop (gf l n)
theorem pre_eq : ∀ {l : List Int} {n : Int} {k : Nat}, k ≤ l.length → (∀ j, j < k → l.getD j 0 < n) → (k < l.length → ¬ l.getD k 0 < n) → k = gf l n
 | [], n, k, hk, _, _ => by simp at hk; subst hk; rfl
 | x :: l, n, 0, _, _, h => by
  have A : ¬ x < n := h (by simp)
  unfold gf; rw [List.takeWhile_cons_of_neg (by simpa using A)]; rfl
 | x :: l, n, k + 1, hk, hl, h => by
  have A : x < n := hl 0 (by omega)
  have := pre_eq (l := l) (n := n) (k := k) (by simpa using hk) (fun j hj => hl (j + 1) (by omega)) (fun hj => h (by simpa using hj))
  unfold gf at this ⊢
  rw [List.takeWhile_cons_of_pos (by simpa using A), List.length_cons, ← this]
theorem ins_same {l : List Int} {n : Int} {k : Nat} (hk : k = gf l n) (h : k < l.length) (A : l.getD k 0 = n) : l = fK l n := by subst hk; unfold fK; rw [if_pos ⟨h, A⟩]
theorem ins_new {l : List Int} {n : Int} {k : Nat} (hk : k = gf l n) (h : ¬ (k < l.length ∧ l.getD k 0 = n)) : l.take k ++ [n] ++ l.drop k = fK l n := by subst hk; unfold fK; rw [if_neg h]
theorem ins_len {l : List Int} {n : Int} : (fK l n).length ≤ l.length + 1 := by
 unfold fK; split
 ·
  omega
 simp only [List.length_append, List.length_take, List.length_drop, List.length_cons, List.length_nil]; omega
def jd (l : List Int) (n : Int) : Bool := l.any (fun x => decide (x = n))
theorem lt_succ {p : Nat → Prop} {k : Nat} (h : ∀ j, j < k → p j) (c : p k) : ∀ j, j < k + 1 → p j := fun j hj => by
 rcases Nat.lt_succ_iff_lt_or_eq.1 hj with A | rfl
 ·
  exact h j A
 exact c
end Go.Proofs.YtknafdcgpaejlaaDoor.m6
