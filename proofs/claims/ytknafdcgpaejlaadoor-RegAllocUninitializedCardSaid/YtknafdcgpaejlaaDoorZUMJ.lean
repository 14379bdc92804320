/-
 Live registers: the reference points and calls, by a symbolic run. No condition but bounds on lengths.
-/
import Derived.Test.YtknafdcgpaejlaaDoorZUMI
noncomputable section
namespace Go.Proofs.YtknafdcgpaejlaaDoor.mj
open Go.R
set_option maxRecDepth 10000
set_option linter.unusedVariables false
set_option linter.unusedSimpArgs false
open m1 m2 m3 m4 m5 m6 ma ml mb mc md mf mg mh mi
theorem reads6 {v : VInT} (ho : v.i.op = 6) (x : Int) : x ∈ az v ↔ x ∈ v.args := by
 have A : alV v.i.op = true := by rw [ho]; rfl
 have E : (aK v.i.op).ra = false := by rw [ho]; rfl
 have J : (aK v.i.op).rb = false := by rw [ho]; rfl
 unfold az
 rw [if_pos A, uni_mem]
 unfold gI
 rw [E, J, if_neg (by simp), if_neg (by simp), if_neg (by omega), if_pos ho]
 simp
def acJ (c : VFnT) (b k r : Nat) : Prop := acK c b r ∨ ∃ j, j < k ∧ acI c b j r
theorem aci_lt {c : VFnT} (v : VF c) {b i r : Nat} (hb : b < c.blocks.length) (hi : i < (bA c b).ins.length) (h : acI c b i r) : (r : Int) < c.regs := by
 rcases h with ⟨ho, ⟨A, _⟩ | A⟩
 ·
  exact gX v hb A
 exact ((bV (v.ins b hb i hi)).1 _ ((reads6 ho _).2 A)).2
theorem ack_lt {c : VFnT} (v : VF c) {k r : Nat} (hk : k ≤ c.blocks.length) (h : acK c k r) : (r : Int) < c.regs := by
 obtain ⟨b, i, J, A, E⟩ := h
 exact aci_lt v (by omega) A E
end Go.Proofs.YtknafdcgpaejlaaDoor.mj
