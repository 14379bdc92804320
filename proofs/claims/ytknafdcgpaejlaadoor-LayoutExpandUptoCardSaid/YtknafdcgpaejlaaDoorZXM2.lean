/-
 Plain laws: what the functions compute answers as the statement says. No condition beyond those that each statement names.
-/
import Derived.Test.YtknafdcgpaejlaaDoorZXM1
noncomputable section
namespace Go.Proofs.YtknafdcgpaejlaaDoor.m2
open Go.R m1
set_option linter.unusedVariables false
set_option linter.unusedSimpArgs false
def cb (regs n : Int) : Bool := decide (0 ≤ n ∧ n < regs)
def aM (op : Int) : Int := if op = 38 then 5 else (aD op).form
def aj (op : Int) : InfT := if op = 38 then ⟨⟨[]⟩, 5, false, true, false, false, 0⟩ else aD op
def di (has : Bool) (n regs : Int) : Bool := bif has then cb regs n else decide (n = 0)
def immV (params op n : Int) : Bool := if op = 13 then true else if op = 33 then decide (-4194304 ≤ n ∧ n < 4194304) else if op = 6 then decide (0 ≤ n ∧ n < 8) else if op = 34 ∨ op = 35 then decide (0 ≤ n ∧ n < 4) else if op = 38 then decide (0 ≤ n ∧ n < params) else decide (n = 0)
def fK (params regs : Int) (v : VInT) : Bool :=
 alV v.i.op && decide (v.i.op = 6 ∨ v.args.length = 0) && decide (v.args.length ≤ 6) && v.args.all (cb regs) && di (decide (aM v.i.op ≠ 1)) v.i.a regs &&
  di (decide (aM v.i.op = 3 ∨ aM v.i.op = 4 ∨ aM v.i.op = 7)) v.i.b regs && di (decide (aM v.i.op = 4)) v.i.c regs && immV params v.i.op v.i.n
def iP (nb regs : Int) (b : BlkT) : Bool :=
 if b.fin = 1 then cb nb b.tgt && decide (b.els = 0) && decide (b.reg = 0)
 else if b.fin = 2 then cb nb b.tgt && cb nb b.els && cb regs b.reg
 else if b.fin = 3 then cb regs b.reg && decide (b.tgt = 0) && decide (b.els = 0)
 else if b.fin = 4 then decide (1 ≤ b.tgt ∧ b.tgt < 33554432) && decide (b.els = 0) && decide (b.reg = 0) else false
def blkV (params regs nb : Int) (b : BlkT) : Bool := b.ins.all (fK params regs) && iP nb regs b
def dQ (c : VFnT) : Bool := decide (0 ≤ c.params ∧ c.params ≤ 6 ∧ 0 ≤ c.regs ∧ c.regs ≤ 3000 ∧ 1 ≤ c.blocks.length ∧ c.blocks.length ≤ 1000) && c.blocks.all (blkV c.params c.regs c.blocks.length)
theorem vform_cases {op : Int} (h : alV op = true) : (op = 3 ∧ aM op = 1) ∨ ((op = 6 ∨ op = 13 ∨ op = 33 ∨ op = 38) ∧ aM op = 5) ∨ ((op = 9 ∨ op = 15 ∨ op = 16) ∧ aM op = 2) ∨ ((op = 10 ∨ (17 ≤ op ∧ op ≤ 32)) ∧ aM op = 3) ∨ ((op = 11 ∨ op = 12) ∧ aM op = 4) ∨ ((op = 34 ∨ op = 35) ∧ aM op = 7) := by
 unfold alV at h
 have h := of_decide_eq_true h
 have e : ∃ k : Fin 39, op = (k.val : Int) := ⟨⟨op.toNat, by omega⟩, by simp; omega⟩
 obtain ⟨k, rfl⟩ := e
 revert k
 decide
theorem gW {α : Type} [Inhabited α] {p : α → Bool} {l : List α} : ∀ j, j < 0 → p (l.getD j default) = true := fun j h => by omega
theorem gX {α : Type} [Inhabited α] {p : α → Bool} {l : List α} {k : Nat} (h : ∀ j, j < k → p (l.getD j default) = true) (c : p (l.getD k default) = true) : ∀ j, j < k + 1 → p (l.getD j default) = true := fun j hj => by
 rcases Nat.lt_succ_iff_lt_or_eq.1 hj with z | rfl
 ·
  exact h j z
 exact c
theorem jA {α : Type} [Inhabited α] {p : α → Bool} {l : List α} {k : Nat} (h : ∀ j, j < k → p (l.getD j default) = true) (hk : l.length ≤ k) : l.all p = true := by
 rw [List.all_eq_true]
 intro x hx
 obtain ⟨j, hj, rfl⟩ := List.mem_iff_getElem.1 hx
 have := h j (by omega)
 rwa [List.getD_eq_getElem?_getD, List.getElem?_eq_getElem hj] at this
theorem all_at {α : Type} [Inhabited α] {p : α → Bool} {l : List α} (h : l.all p = true) {k : Nat} (hk : k < l.length) : p (l.getD k default) = true := List.all_eq_true.1 h _ (by rw [List.getD_eq_getElem?_getD, List.getElem?_eq_getElem hk]; exact List.getElem_mem hk)
theorem j7 {α : Type} [Inhabited α] {p : α → Bool} {l : List α} {k : Nat} (hk : k < l.length) (c : p (l.getD k default) = false) : l.all p = false := by
 cases h : l.all p with
 | false => rfl
 | true => rw [all_at h hk] at c; cases c
theorem vin_no {params regs : Int} {v : VInT} (h : v.args.all (cb regs) = false) : false = fK params regs v := by unfold fK; rw [h]; simp
theorem vin_bad2 {params regs : Int} {v : VInT} (h : (alV v.i.op = false ∨ v.i.op ≠ 6 ∧ 0 < (v.args.length : Int)) ∨ 6 < (v.args.length : Int)) : false = fK params regs v := by
 unfold fK
 rcases h with (h | ⟨h, z⟩) | h
 ·
  rw [h]; simp
 ·
  rw [decide_eq_false (p := v.i.op = 6 ∨ v.args.length = 0) (by omega)]; simp
 rw [decide_eq_false (p := v.args.length ≤ 6) (by omega)]; simp
theorem vinf_form {op : Int} : (aj op).form = aM op := by unfold aj aM; split <;> rfl
theorem bK {r n : Int} : cb r n = true ↔ 0 ≤ n ∧ n < r := by unfold cb; exact decide_eq_true_iff
theorem regOK_not {r n : Int} : cb r n = false ↔ ¬ (0 ≤ n ∧ n < r) := by unfold cb; exact decide_eq_false_iff_not
theorem dP {nb regs : Int} {b : BlkT} : iP nb regs b = true ↔ (b.fin = 1 ∧ 0 ≤ b.tgt ∧ b.tgt < nb ∧ b.els = 0 ∧ b.reg = 0 ∨ b.fin = 2 ∧ 0 ≤ b.tgt ∧ b.tgt < nb ∧ 0 ≤ b.els ∧ b.els < nb ∧ 0 ≤ b.reg ∧ b.reg < regs ∨ b.fin = 3 ∧ 0 ≤ b.reg ∧ b.reg < regs ∧ b.tgt = 0 ∧ b.els = 0 ∨ b.fin = 4 ∧ 1 ≤ b.tgt ∧ b.tgt < 33554432 ∧ b.els = 0 ∧ b.reg = 0) := by
 unfold iP
 (repeat' split) <;> (try simp only [Bool.and_eq_true, bK, decide_eq_true_eq]) <;> first | omega | (simp only [Bool.false_eq_true, false_iff]; omega)
def badV (av bv dv nv : Bool) (regs a b c n : Int) : Bool :=
 ((((((((av && (!(cb regs a))) || (bv && (!(cb regs b)))) || (dv && (!(cb regs c)))) || ((!av) && (a != 0))) || ((!bv) && (b != 0))) || ((!dv) && (c != 0))) || ((!nv) && (n != 0))))
section
variable {params regs : Int} {v : VInT}
theorem vin_ops (hal : alV v.i.op = true) (z : v.i.op = 6 ∨ v.args.length = 0) (hl : v.args.length ≤ 6) (hall : v.args.all (cb regs) = true) : fK params regs v =
  (di (decide (aM v.i.op ≠ 1)) v.i.a regs && di (decide (aM v.i.op = 3 ∨ aM v.i.op = 4 ∨ aM v.i.op = 7)) v.i.b regs && di (decide (aM v.i.op = 4)) v.i.c regs && immV params v.i.op v.i.n) := by
 unfold fK
 rw [hal, hall, decide_eq_true z, decide_eq_true hl]; simp
theorem refbad_eq : ((!(di ((aj v.i.op).form != 1) v.i.a regs)) || (!(di ((((aj v.i.op).form == 3) || ((aj v.i.op).form == 4)) || ((aj v.i.op).form == 7)) v.i.b regs)) || (!(di ((aj v.i.op).form == 4) v.i.c regs))) =
  !(di (decide (aM v.i.op ≠ 1)) v.i.a regs && di (decide (aM v.i.op = 3 ∨ aM v.i.op = 4 ∨ aM v.i.op = 7)) v.i.b regs && di (decide (aM v.i.op = 4)) v.i.c regs) := by
 rw [vinf_form]
 have z : (aM v.i.op != 1) = decide (aM v.i.op ≠ 1) := by by_cases h : aM v.i.op = 1 <;> simp [h]
 have A : (((aM v.i.op == 3) || (aM v.i.op == 4)) || (aM v.i.op == 7)) = decide (aM v.i.op = 3 ∨ aM v.i.op = 4 ∨ aM v.i.op = 7) := by
  rw [Bool.eq_iff_iff]; simp [or_assoc]
 have E : (aM v.i.op == 4) = decide (aM v.i.op = 4) := by by_cases h : aM v.i.op = 4 <;> simp [h]
 rw [z, A, E, Bool.not_and, Bool.not_and]
theorem vin_rbad (hal : alV v.i.op = true) (z : v.i.op = 6 ∨ v.args.length = 0) (hl : v.args.length ≤ 6) (hall : v.args.all (cb regs) = true)
  (h : ((!(di ((aj v.i.op).form != 1) v.i.a regs)) || (!(di ((((aj v.i.op).form == 3) || ((aj v.i.op).form == 4)) || ((aj v.i.op).form == 7)) v.i.b regs)) || (!(di ((aj v.i.op).form == 4) v.i.c regs))) = true) : false = fK params regs v := by
 rw [refbad_eq, Bool.not_eq_true'] at h
 rw [vin_ops hal z hl hall, h]; rfl
theorem vin_rgood (hal : alV v.i.op = true) (z : v.i.op = 6 ∨ v.args.length = 0) (hl : v.args.length ≤ 6) (hall : v.args.all (cb regs) = true)
  (h : ((!(di ((aj v.i.op).form != 1) v.i.a regs)) || (!(di ((((aj v.i.op).form == 3) || ((aj v.i.op).form == 4)) || ((aj v.i.op).form == 7)) v.i.b regs)) || (!(di ((aj v.i.op).form == 4) v.i.c regs))) = false) : fK params regs v = immV params v.i.op v.i.n := by
 rw [refbad_eq, Bool.not_eq_false'] at h
 rw [vin_ops hal z hl hall, h, Bool.true_and]
end
theorem blk_no {params regs nb : Int} {b : BlkT} (h : b.ins.all (fK params regs) = false) : blkV params regs nb b = false := by unfold blkV; rw [h, Bool.false_and]
theorem blk_end {params regs nb : Int} {b : BlkT} (h : iP nb regs b = false) : blkV params regs nb b = false := by unfold blkV; rw [h, Bool.and_false]
theorem blk_yes {params regs nb : Int} {b : BlkT} (h : b.ins.all (fK params regs) = true) (z : iP nb regs b = true) : blkV params regs nb b = true := by unfold blkV; rw [h, z]; rfl
theorem val_no {c : VFnT} (h : c.blocks.all (blkV c.params c.regs c.blocks.length) = false) : false = dQ c := by unfold dQ; rw [h, Bool.and_false]
theorem val_lim {c : VFnT} (h : ¬ (0 ≤ c.params ∧ c.params ≤ 6 ∧ 0 ≤ c.regs ∧ c.regs ≤ 3000 ∧ 1 ≤ c.blocks.length ∧ c.blocks.length ≤ 1000)) : false = dQ c := by unfold dQ; rw [decide_eq_false h, Bool.false_and]
theorem val_yes {c : VFnT} (h : 0 ≤ c.params ∧ c.params ≤ 6 ∧ 0 ≤ c.regs ∧ c.regs ≤ 3000 ∧ 1 ≤ c.blocks.length ∧ c.blocks.length ≤ 1000) (z : c.blocks.all (blkV c.params c.regs c.blocks.length) = true) : true = dQ c := by unfold dQ; rw [decide_eq_true h, z]; rfl
end Go.Proofs.YtknafdcgpaejlaaDoor.m2
