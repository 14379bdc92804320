/-
 Live registers: the solution of the equations, by a symbolic run. No condition but that the function is valid.
-/
import Derived.Test.YtknafdcgpaejlaaDoorZXMB
noncomputable section
namespace Go.Proofs.YtknafdcgpaejlaaDoor.mc
open Go.R
set_option maxRecDepth 10000
set_option linter.unusedVariables false
set_option linter.unusedSimpArgs false
open m1 m2 m3 m4 m5 m6 ma ml mb
theorem mem_at {l : List Int} {q : Nat} (h : q < l.length) : l.getD q 0 ∈ l := by
 rw [List.getD_eq_getElem?_getD, List.getElem?_eq_getElem h]; exact List.getElem_mem h
theorem succ_len {b : BlkT} : (bE b).length ≤ 2 := by
 unfold bE
 split
 ·
  simp
 split
 ·
  exact ins_len
 simp
end Go.Proofs.YtknafdcgpaejlaaDoor.mc
