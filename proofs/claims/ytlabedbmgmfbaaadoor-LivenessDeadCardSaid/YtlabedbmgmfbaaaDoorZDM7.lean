/-
 Plain laws: what the functions compute answers as the statement says. No condition beyond those that each statement names.
-/
import Derived.Test.YtlabedbmgmfbaaaDoorZDM6
noncomputable section
namespace Go.Proofs.YtlabedbmgmfbaaaDoor.m7
open Go.R m1 m2 m3 m4 m5 m6
set_option linter.unusedVariables false
def lenOK (n : Int) : Bool := decide (1 ≤ n ∧ n ≤ 16)
def vpI (l : List VFnT) (nl : Int) (v : VInT) : Bool := (if v.i.op = 6 then decide (v.i.n < (l.length : Int)) && decide ((l.getD v.i.n.toNat default).params = (v.args.length : Int)) else true) && (if v.i.op = 34 ∨ v.i.op = 35 then decide (v.i.n < nl) else true)
def vpB (l : List VFnT) (nl : Int) (b : BlkT) : Bool := b.ins.all (vpI l nl)
def vpF (l : List VFnT) (nl : Int) (c : VFnT) : Bool := eL c && c.blocks.all (vpB l nl)
def vpV (l : List VFnT) (lens : List Int) : Bool := decide (1 ≤ l.length ∧ l.length ≤ 8 ∧ lens.length ≤ 4) && lens.all lenOK && l.all (vpF l (lens.length : Int))
section
variable {l : List VFnT} {lens : List Int} {nl : Int} {c : VFnT} {v : VInT}
theorem vp_lim (h : ¬ (1 ≤ l.length ∧ l.length ≤ 8 ∧ lens.length ≤ 4)) : false = vpV l lens := by unfold vpV; rw [decide_eq_false h]; rfl
theorem vp_len (h : lens.all lenOK = false) : false = vpV l lens := by unfold vpV; rw [h]; simp
theorem vp_f (h : l.all (vpF l (lens.length : Int)) = false) : false = vpV l lens := by unfold vpV; rw [h]; simp
theorem vp_yes (h : 1 ≤ l.length ∧ l.length ≤ 8 ∧ lens.length ≤ 4) (z : lens.all lenOK = true) (A : l.all (vpF l (lens.length : Int)) = true) : true = vpV l lens := by unfold vpV; rw [decide_eq_true h, z, A]; rfl
theorem vpF_no (h : eL c = false) : vpF l nl c = false := by unfold vpF; rw [h]; rfl
theorem vpF_b (h : c.blocks.all (vpB l nl) = false) : vpF l nl c = false := by unfold vpF; rw [h, Bool.and_false]
theorem vpF_yes (h : eL c = true) (z : c.blocks.all (vpB l nl) = true) : vpF l nl c = true := by unfold vpF; rw [h, z]; rfl
theorem kU : vpI l nl v = true ↔ (v.i.op = 6 → v.i.n < (l.length : Int) ∧ (l.getD v.i.n.toNat default).params = (v.args.length : Int)) ∧ ((v.i.op = 34 ∨ v.i.op = 35) → v.i.n < nl) := by
 unfold vpI
 by_cases z : v.i.op = 6
 ·
  rw [if_pos z, if_neg (by omega)]; simp [z]
 ·
  rw [if_neg z]
  by_cases A : v.i.op = 34 ∨ v.i.op = 35
  ·
   rw [if_pos A]; simp [z, A]
  ·
   rw [if_neg A]; simp [z, A]
theorem vpI_not (h : ¬ ((v.i.op = 6 → v.i.n < (l.length : Int) ∧ (l.getD v.i.n.toNat default).params = (v.args.length : Int)) ∧ ((v.i.op = 34 ∨ v.i.op = 35) → v.i.n < nl))) : vpI l nl v = false := Bool.eq_false_iff.2 fun hv => h (kU.1 hv)
theorem val_nn (h : eL c = true) {k i : Nat} (hk : k < c.blocks.length) (hi : i < (c.blocks.getD k default).ins.length) (ho : ((c.blocks.getD k default).ins.getD i default).i.op = 6 ∨ ((c.blocks.getD k default).ins.getD i default).i.op = 34 ∨ ((c.blocks.getD k default).ins.getD i default).i.op = 35) : 0 ≤ ((c.blocks.getD k default).ins.getD i default).i.n := by
 unfold eL at h
 rw [Bool.and_eq_true] at h
 have hb := eK h.2 hk
 unfold jZ at hb
 rw [Bool.and_eq_true] at hb
 have hv := eK hb.1 hi
 unfold eg at hv
 rw [Bool.and_eq_true] at hv
 have hm := hv.2
 generalize ((c.blocks.getD k default).ins.getD i default).i.n = n at hm ⊢
 generalize ((c.blocks.getD k default).ins.getD i default).i.op = op at hm ho
 unfold gK at hm
 rcases ho with rfl | rfl | rfl
 ·
  rw [if_neg (by decide), if_neg (by decide), if_pos rfl] at hm
  have := of_decide_eq_true hm; omega
 ·
  rw [if_neg (by decide), if_neg (by decide), if_neg (by decide), if_pos (by decide)] at hm
  have := of_decide_eq_true hm; omega
 ·
  rw [if_neg (by decide), if_neg (by decide), if_neg (by decide), if_pos (by decide)] at hm
  have := of_decide_eq_true hm; omega
theorem vp_not {k b i : Nat} (hk : k < l.length) (hb : b < (l.getD k default).blocks.length) (hi : i < ((l.getD k default).blocks.getD b default).ins.length)
  (h : vpI l (lens.length : Int) (((l.getD k default).blocks.getD b default).ins.getD i default) = false) : false = vpV l lens :=
 vp_f (cL hk (vpF_b (cL hb (cL hi h))))
theorem val_bd (h : eL c = true) : c.blocks.length ≤ 1000 := by
 unfold eL at h
 rw [Bool.and_eq_true] at h
 have := of_decide_eq_true h.1
 omega
end
end Go.Proofs.YtlabedbmgmfbaaaDoor.m7
