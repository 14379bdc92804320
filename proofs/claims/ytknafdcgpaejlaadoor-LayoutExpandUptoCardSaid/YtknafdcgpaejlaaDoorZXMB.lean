/-
 Live registers: the program, function by function, each by a symbolic run. No condition but that the function is valid.
-/
import Derived.Test.YtknafdcgpaejlaaDoorZXML
noncomputable section
namespace Go.Proofs.YtknafdcgpaejlaaDoor.mb
open Go.R
set_option maxRecDepth 10000
set_option linter.unusedVariables false
set_option linter.unusedSimpArgs false
open m1 m2 m3 m4 m5 m6 ma ml
theorem lim_at {l : List Int} {m : Int} (h : ∀ x ∈ l, 0 ≤ x ∧ x < m) {k : Nat} (hk : k < l.length) : 0 ≤ l.getD k 0 ∧ l.getD k 0 < m := by
 rw [List.getD_eq_getElem?_getD, List.getElem?_eq_getElem hk]; exact h _ (List.getElem_mem hk)
theorem iZ {v : VInT} : (ak v).length ≤ 1 := by unfold ak; split <;> simp
theorem h9 {v : VInT} : (aI v).length ≤ 3 + v.args.length := by
 unfold aI
 split
 ·
  refine Nat.le_trans dE ?_
  unfold dS
  simp only [List.length_append, List.length_nil]
  have z := cr (a := v.i.a) (p := (aD v.i.op).ra = true)
  have A := cr (a := v.i.b) (p := (aD v.i.op).rb = true)
  have E := cr (a := v.i.c) (p := v.i.op = 11 ∨ v.i.op = 12)
  have J : (if v.i.op = 6 then v.args else []).length ≤ v.args.length := by split <;> first | exact Nat.le_refl _ | exact Nat.zero_le _
  omega
 exact Nat.zero_le _
end Go.Proofs.YtknafdcgpaejlaaDoor.mb
