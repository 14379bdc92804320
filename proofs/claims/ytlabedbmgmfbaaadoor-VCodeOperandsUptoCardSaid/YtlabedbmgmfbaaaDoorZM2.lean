/-
  Plain laws: what the functions compute answers as the statement says. No condition beyond those that each statement names.
-/
import Derived.Test.YtlabedbmgmfbaaaDoorZM1
noncomputable section
namespace Go.Proofs.YtlabedbmgmfbaaaDoor.m2
open Go.R m1
set_option linter.unusedVariables false
def regOK (regs n : Int) : Bool := decide (0 ≤ n ∧ n < regs)
def vformV (op : Int) : Int := if op = 38 then 5 else (infV op).form
def vinfV (op : Int) : InfT := if op = 38 then ⟨⟨[]⟩, 5, false, true, false, false, 0⟩ else infV op
def opOK (has : Bool) (n regs : Int) : Bool := bif has then regOK regs n else decide (n = 0)
def immV (params op n : Int) : Bool := if op = 13 then true else if op = 33 then decide (-4194304 ≤ n ∧ n < 4194304) else if op = 6 then decide (0 ≤ n ∧ n < 8) else if op = 34 ∨ op = 35 then decide (0 ≤ n ∧ n < 4) else if op = 38 then decide (0 ≤ n ∧ n < params) else decide (n = 0)
def vinV (params regs : Int) (v : VInT) : Bool :=
  alV v.i.op && decide (v.i.op = 6 ∨ v.args.length = 0) && decide (v.args.length ≤ 6) && v.args.all (regOK regs) && opOK (decide (vformV v.i.op ≠ 1)) v.i.a regs &&
    opOK (decide (vformV v.i.op = 3 ∨ vformV v.i.op = 4 ∨ vformV v.i.op = 7)) v.i.b regs && opOK (decide (vformV v.i.op = 4)) v.i.c regs && immV params v.i.op v.i.n
def vendV (nb regs : Int) (b : BlkT) : Bool :=
  if b.fin = 1 then regOK nb b.tgt && decide (b.els = 0) && decide (b.reg = 0)
  else if b.fin = 2 then regOK nb b.tgt && regOK nb b.els && regOK regs b.reg
  else if b.fin = 3 then regOK regs b.reg && decide (b.tgt = 0) && decide (b.els = 0)
  else if b.fin = 4 then decide (1 ≤ b.tgt ∧ b.tgt < 33554432) && decide (b.els = 0) && decide (b.reg = 0) else false
def blkV (params regs nb : Int) (b : BlkT) : Bool := b.ins.all (vinV params regs) && vendV nb regs b
def valV (c : VFnT) : Bool := decide (0 ≤ c.params ∧ c.params ≤ 6 ∧ 0 ≤ c.regs ∧ c.regs ≤ 3000 ∧ 1 ≤ c.blocks.length ∧ c.blocks.length ≤ 1000) && c.blocks.all (blkV c.params c.regs c.blocks.length)
theorem vform_cases {op : Int} (h : alV op = true) : (op = 3 ∧ vformV op = 1) ∨ ((op = 6 ∨ op = 13 ∨ op = 33 ∨ op = 38) ∧ vformV op = 5) ∨ ((op = 9 ∨ op = 15 ∨ op = 16) ∧ vformV op = 2) ∨ ((op = 10 ∨ (17 ≤ op ∧ op ≤ 32)) ∧ vformV op = 3) ∨ ((op = 11 ∨ op = 12) ∧ vformV op = 4) ∨ ((op = 34 ∨ op = 35) ∧ vformV op = 7) := by
  unfold alV at h
  have h := of_decide_eq_true h
  have e : ∃ k : Fin 39, op = (k.val : Int) := ⟨⟨op.toNat, by omega⟩, by simp; omega⟩
  obtain ⟨k, rfl⟩ := e
  revert k
  decide
theorem all_at {α : Type} [Inhabited α] {p : α → Bool} {l : List α} (h : l.all p = true) {k : Nat} (hk : k < l.length) : p (l.getD k default) = true := List.all_eq_true.1 h _ (by rw [List.getD_eq_getElem?_getD, List.getElem?_eq_getElem hk]; exact List.getElem_mem hk)
theorem regOK_iff {r n : Int} : regOK r n = true ↔ 0 ≤ n ∧ n < r := by unfold regOK; exact decide_eq_true_iff
theorem vend_iff {nb regs : Int} {b : BlkT} : vendV nb regs b = true ↔ (b.fin = 1 ∧ 0 ≤ b.tgt ∧ b.tgt < nb ∧ b.els = 0 ∧ b.reg = 0 ∨ b.fin = 2 ∧ 0 ≤ b.tgt ∧ b.tgt < nb ∧ 0 ≤ b.els ∧ b.els < nb ∧ 0 ≤ b.reg ∧ b.reg < regs ∨ b.fin = 3 ∧ 0 ≤ b.reg ∧ b.reg < regs ∧ b.tgt = 0 ∧ b.els = 0 ∨ b.fin = 4 ∧ 1 ≤ b.tgt ∧ b.tgt < 33554432 ∧ b.els = 0 ∧ b.reg = 0) := by
  unfold vendV
  (repeat' split) <;> (try simp only [Bool.and_eq_true, regOK_iff, decide_eq_true_eq]) <;> first | omega | (simp only [Bool.false_eq_true, false_iff]; omega)
def badV (av bv dv nv : Bool) (regs a b c n : Int) : Bool :=
  ((((((((av && (!(regOK regs a))) || (bv && (!(regOK regs b)))) || (dv && (!(regOK regs c)))) || ((!av) && (a != 0))) || ((!bv) && (b != 0))) || ((!dv) && (c != 0))) || ((!nv) && (n != 0))))
section
variable {params regs : Int} {v : VInT}
end
/-! A block, a function. -/
theorem blk_yes {params regs nb : Int} {b : BlkT} (h : b.ins.all (vinV params regs) = true) (h2 : vendV nb regs b = true) : blkV params regs nb b = true := by unfold blkV; rw [h, h2]; rfl
theorem val_yes {c : VFnT} (h : 0 ≤ c.params ∧ c.params ≤ 6 ∧ 0 ≤ c.regs ∧ c.regs ≤ 3000 ∧ 1 ≤ c.blocks.length ∧ c.blocks.length ≤ 1000) (h2 : c.blocks.all (blkV c.params c.regs c.blocks.length) = true) : true = valV c := by unfold valV; rw [decide_eq_true h, h2]; rfl
end Go.Proofs.YtlabedbmgmfbaaaDoor.m2
