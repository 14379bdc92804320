/-
 Sets of registers as ascending lists, comparisons of results: the reference, function by function, each by a symbolic run. No condition but bounds on lengths.
-/
import Derived.Test.YtknafdcgpaejlaaDoorZAM5
noncomputable section
namespace Go.Proofs.YtknafdcgpaejlaaDoor.m6
open Go.R
set_option maxRecDepth 10000
set_option linter.unusedVariables false
open m1 m2 m3 m4 m5
def preV (l : List Int) (n : Int) : Nat := (l.takeWhile (fun x => decide (x < n))).length
def insV (l : List Int) (n : Int) : List Int := if preV l n < l.length ∧ l.getD (preV l n) 0 = n then l else l.take (preV l n) ++ [n] ++ l.drop (preV l n)
theorem pre_eq : ∀ {l : List Int} {n : Int} {k : Nat}, k ≤ l.length → (∀ j, j < k → l.getD j 0 < n) → (k < l.length → ¬ l.getD k 0 < n) → k = preV l n
 | [], n, k, hk, _, _ => by simp at hk; subst hk; rfl
 | x :: l, n, 0, _, _, h => by
  have z : ¬ x < n := h (by simp)
  unfold preV; rw [List.takeWhile_cons_of_neg (by simpa using z)]; rfl
 | x :: l, n, k + 1, hk, hl, h => by
  have z : x < n := hl 0 (by omega)
  have := pre_eq (l := l) (n := n) (k := k) (by simpa using hk) (fun j hj => hl (j + 1) (by omega)) (fun hj => h (by simpa using hj))
  unfold preV at this ⊢
  rw [List.takeWhile_cons_of_pos (by simpa using z), List.length_cons, ← this]
theorem ins_same {l : List Int} {n : Int} {k : Nat} (hk : k = preV l n) (h : k < l.length) (z : l.getD k 0 = n) : l = insV l n := by subst hk; unfold insV; rw [if_pos ⟨h, z⟩]
theorem ins_new {l : List Int} {n : Int} {k : Nat} (hk : k = preV l n) (h : ¬ (k < l.length ∧ l.getD k 0 = n)) : l.take k ++ [n] ++ l.drop k = insV l n := by subst hk; unfold insV; rw [if_neg h]
theorem ins_len {l : List Int} {n : Int} : (insV l n).length ≤ l.length + 1 := by
 unfold insV; split
 ·
  omega
 ·
  simp only [List.length_append, List.length_take, List.length_drop, List.length_cons, List.length_nil]; omega
def conV (l : List Int) (n : Int) : Bool := l.any (fun x => decide (x = n))
theorem con_no {l : List Int} {n : Int} {k : Nat} (h : ∀ j, j < k → ¬ l.getD j 0 = n) (hk : l.length ≤ k) : false = conV l n := by
 symm; unfold conV
 rw [List.any_eq_false]
 intro x hx
 obtain ⟨j, hj, rfl⟩ := List.mem_iff_getElem.1 hx
 have := h j (by omega)
 rw [List.getD_eq_getElem?_getD, List.getElem?_eq_getElem hj] at this
 simpa using this
theorem con_yes {l : List Int} {n : Int} {k : Nat} (hk : k < l.length) (h : l.getD k 0 = n) : true = conV l n := by
 symm; unfold conV
 rw [List.any_eq_true]
 refine ⟨l.getD k 0, ?_, by simpa using h⟩
 rw [List.getD_eq_getElem?_getD, List.getElem?_eq_getElem hk]; exact List.getElem_mem hk
theorem lt_succ {p : Nat → Prop} {k : Nat} (h : ∀ j, j < k → p j) (c : p k) : ∀ j, j < k + 1 → p j := fun j hj => by
 rcases Nat.lt_succ_iff_lt_or_eq.1 hj with z | rfl
 ·
  exact h j z
 ·
  exact c
theorem contains_c (ex : FuncId) {a_l : Option Addr} {k_l : Nat} (l : List Int) (n : Int) {F : Fz} {H : Heap} {R : List Fp} (hs : HS (.of H []) F H [] R) (hl : SR F (.slice a_l l.length k_l) l) (hn : in64 n) (hT : TB 37 tabC F) (hlen : l.length ≤ 1073741824) : C Tryd.prog 1 (KT 60 ex 37 tabC) 28 [(.slice a_l l.length k_l), (.int .i64 n)] H fun v H' => ∃ (r : Bool), H' = H ∧ v = .bool r ∧ r = conV l n := by
 refine c_enter Tryd.func28 rfl rfl ?_
 refine wk_foc 1 rfl ?_
 refine wr 3 [] 4 4 [] [(4, (.bool false))] trivial (by kernel_rfl) rfl fun _ => ?_
 refine wr 2 [] 1 0 [5] [(5, (.int .i64 0))] trivial (by kernel_rfl) rfl fun _ => ?_
 refine wk_loop_inv (fun (mm : Nat) f H' => ∃ (k : Nat), H' = H ∧ agrees f [(0, (.slice a_l l.length k_l)), (1, (.int .i64 n)), (5, (.int .i64 (k : Int)))] ∧ mm = l.length - k ∧ (k ≤ l.length) ∧ (∀ j, j < k → ¬ l.getD j 0 = n)) _ ⟨0, rfl, (agC rfl (agC rfl (agC rfl agN))), rfl, (by first | assumption | omega | (simp at *; omega)), (by intro j hj; omega)⟩ ?_
 rintro V Y H ⟨k, rfl, E, rfl, h1, O⟩ T
 refine wk_canon _ E (fun _ => ?_)
 clear E
 refine wk_foc 2 rfl ?_
 refine wr 1 [] 6 9 [] [(9, (.bool (decide ((k : Int) < (l.length : Int)))))] trivial (by kernel_rfl) rfl fun _ => ?_
 refine wk_if 4 5 (v := (decide ((k : Int) < (l.length : Int)))) rfl rfl rfl rfl (fun z => ?_) (fun z => ?_)
 ·
  have J := z
  try simp only [BS] at J
  obtain ⟨U, I⟩ := Sv.view (SR.sv hl hs)
  have Z := fI (I k)
  refine wr 1 [(3, .o (.int .i64 (l.getD k 0)))] 12 17 [] [(17, (.bool ((l.getD k 0) == n)))] (vA (Sv.ix (j := (k : Int)) (SR.sv hl hs) (by omega) (by omega)) (vA (ql 3 0 (vI (I k) (by omega)) rfl rfl) trivial)) (by kernel_rfl) rfl fun _ => ?_
  refine wk_if 1 2 (v := ((l.getD k 0) == n)) rfl rfl rfl rfl (fun A => ?_) (fun A => ?_)
  ·
   have N := A
   try simp only [BS] at N
   refine wr 1 [] 4 4 [] [(4, (.bool true))] trivial (by kernel_rfl) rfl fun _ => ?_
   refine wk_ret ⟨.inr rfl, _, rfl, true, rfl, rfl, (by first | exact con_yes (k := k) (by omega) (by omega) | exact con_no O (by omega))⟩
  ·
   have N := A
   try simp only [BS] at N
   refine wr 1 [] 10 11 [5] [(5, (.int .i64 ((k : Int) + 1)))] (vA (vi (n := (k : Int) + 1) (by omega)) trivial) (by kernel_rfl) rfl fun _ => ?_
   refine T _ _ _ ?_ ⟨k + 1, rfl, (agC rfl (agC rfl (agC rfl agN))), rfl, (by first | assumption | omega | (simp at *; omega)), (by exact lt_succ O (by omega))⟩
   omega
 ·
  have J := z
  try simp only [BS] at J
  refine wr 1 [] 4 4 [] [(4, (.bool false))] trivial (by kernel_rfl) rfl fun _ => ?_
  refine wk_ret ⟨.inr rfl, _, rfl, false, rfl, rfl, (by first | exact con_yes (k := k) (by omega) (by omega) | exact con_no O (by omega))⟩
theorem contains_c_q (ex : FuncId) {a_l : Option Addr} {k_l : Nat} (l : List Int) (n : Int) {F : Fz} {H : Heap} {R : List Fp} (hs : HS (.of H []) F H [] R) (hl : SR F (.slice a_l l.length k_l) l) (hn : in64 n) (hT : TB 37 tabC F) (hlen : l.length ≤ 1073741824) : C Tryd.prog 1 (KT 60 ex 37 tabC) 28 [(.slice a_l l.length k_l), (.int .i64 n)] H fun v H' => v = (.bool (conV l n)) ∧ H' = H :=
 cq (contains_c ex l n hs hl hn hT hlen) (by rintro _ _ ⟨_, rfl, rfl, rfl⟩; exact ⟨rfl, rfl⟩)
end Go.Proofs.YtknafdcgpaejlaaDoor.m6
