/-
 Plain laws: what the functions compute answers as the statement says. No condition beyond those that each statement names.
-/
import Derived.Test.YtlabedbmgmfbaaaDoorZDM1
noncomputable section
namespace Go.Proofs.YtlabedbmgmfbaaaDoor.m2
open Go.R m1
set_option linter.unusedVariables false
def aJ (regs n : Int) : Bool := decide (0 ≤ n ∧ n < regs)
def aw (op : Int) : Int := if op = 38 then 5 else (aI op).form
def br (op : Int) : InfT := if op = 38 then ⟨⟨[]⟩, 5, false, true, false, false, 0⟩ else aI op
def dq (has : Bool) (n regs : Int) : Bool := bif has then aJ regs n else decide (n = 0)
def gK (params op n : Int) : Bool := if op = 13 then true else if op = 33 then decide (-4194304 ≤ n ∧ n < 4194304) else if op = 6 then decide (0 ≤ n ∧ n < 8) else if op = 34 ∨ op = 35 then decide (0 ≤ n ∧ n < 4) else if op = 38 then decide (0 ≤ n ∧ n < params) else decide (n = 0)
def eg (params regs : Int) (v : VInT) : Bool :=
 alV v.i.op && decide (v.i.op = 6 ∨ v.args.length = 0) && decide (v.args.length ≤ 6) && v.args.all (aJ regs) && dq (decide (aw v.i.op ≠ 1)) v.i.a regs &&
  dq (decide (aw v.i.op = 3 ∨ aw v.i.op = 4 ∨ aw v.i.op = 7)) v.i.b regs && dq (decide (aw v.i.op = 4)) v.i.c regs && gK params v.i.op v.i.n
def fQ (nb regs : Int) (b : BlkT) : Bool :=
 if b.fin = 1 then aJ nb b.tgt && decide (b.els = 0) && decide (b.reg = 0)
 else if b.fin = 2 then aJ nb b.tgt && aJ nb b.els && aJ regs b.reg
 else if b.fin = 3 then aJ regs b.reg && decide (b.tgt = 0) && decide (b.els = 0)
 else if b.fin = 4 then decide (1 ≤ b.tgt ∧ b.tgt < 33554432) && decide (b.els = 0) && decide (b.reg = 0) else false
def jZ (params regs nb : Int) (b : BlkT) : Bool := b.ins.all (eg params regs) && fQ nb regs b
def eL (c : VFnT) : Bool := decide (0 ≤ c.params ∧ c.params ≤ 6 ∧ 0 ≤ c.regs ∧ c.regs ≤ 3000 ∧ 1 ≤ c.blocks.length ∧ c.blocks.length ≤ 1000) && c.blocks.all (jZ c.params c.regs c.blocks.length)
theorem bc {op : Int} (h : alV op = true) : (op = 3 ∧ aw op = 1) ∨ ((op = 6 ∨ op = 13 ∨ op = 33 ∨ op = 38) ∧ aw op = 5) ∨ ((op = 9 ∨ op = 15 ∨ op = 16) ∧ aw op = 2) ∨ ((op = 10 ∨ (17 ≤ op ∧ op ≤ 32)) ∧ aw op = 3) ∨ ((op = 11 ∨ op = 12) ∧ aw op = 4) ∨ ((op = 34 ∨ op = 35) ∧ aw op = 7) := by
 unfold alV at h
 have h := of_decide_eq_true h
 have e : ∃ k : Fin 39, op = (k.val : Int) := ⟨⟨op.toNat, by omega⟩, by simp; omega⟩
 obtain ⟨k, rfl⟩ := e
 revert k
 decide
theorem cP {α : Type} [Inhabited α] {p : α → Bool} {l : List α} : ∀ j, j < 0 → p (l.getD j default) = true := fun j h => by omega
theorem b8 {α : Type} [Inhabited α] {p : α → Bool} {l : List α} {k : Nat} (h : ∀ j, j < k → p (l.getD j default) = true) (c : p (l.getD k default) = true) : ∀ j, j < k + 1 → p (l.getD j default) = true := fun j hj => by
 rcases Nat.lt_succ_iff_lt_or_eq.1 hj with z | rfl
 ·
  exact h j z
 ·
  exact c
theorem dC {α : Type} [Inhabited α] {p : α → Bool} {l : List α} {k : Nat} (h : ∀ j, j < k → p (l.getD j default) = true) (hk : l.length ≤ k) : l.all p = true := by
 rw [List.all_eq_true]
 intro x hx
 obtain ⟨j, hj, rfl⟩ := List.mem_iff_getElem.1 hx
 have := h j (by omega)
 rwa [List.getD_eq_getElem?_getD, List.getElem?_eq_getElem hj] at this
theorem eK {α : Type} [Inhabited α] {p : α → Bool} {l : List α} (h : l.all p = true) {k : Nat} (hk : k < l.length) : p (l.getD k default) = true := List.all_eq_true.1 h _ (by rw [List.getD_eq_getElem?_getD, List.getElem?_eq_getElem hk]; exact List.getElem_mem hk)
theorem cL {α : Type} [Inhabited α] {p : α → Bool} {l : List α} {k : Nat} (hk : k < l.length) (c : p (l.getD k default) = false) : l.all p = false := by
 cases h : l.all p with
 | false => rfl
 | true => rw [eK h hk] at c; cases c
theorem vin_no {params regs : Int} {v : VInT} (h : v.args.all (aJ regs) = false) : false = eg params regs v := by unfold eg; rw [h]; simp
theorem vin_bad2 {params regs : Int} {v : VInT} (h : (alV v.i.op = false ∨ v.i.op ≠ 6 ∧ 0 < (v.args.length : Int)) ∨ 6 < (v.args.length : Int)) : false = eg params regs v := by
 unfold eg
 rcases h with (h | ⟨h, z⟩) | h
 ·
  rw [h]; simp
 ·
  rw [decide_eq_false (p := v.i.op = 6 ∨ v.args.length = 0) (by omega)]; simp
 ·
  rw [decide_eq_false (p := v.args.length ≤ 6) (by omega)]; simp
theorem vinf_form {op : Int} : (br op).form = aw op := by unfold br aw; split <;> rfl
theorem gH {b : Bool} {n r : Int} : dq b n r = true ↔ (b = true ∧ 0 ≤ n ∧ n < r ∨ b = false ∧ n = 0) := by cases b <;> simp [dq, aJ]
theorem bp {r n : Int} : aJ r n = true ↔ 0 ≤ n ∧ n < r := by unfold aJ; exact decide_eq_true_iff
theorem gF {r n : Int} : aJ r n = false ↔ ¬ (0 ≤ n ∧ n < r) := by unfold aJ; exact decide_eq_false_iff_not
theorem bE {nb regs : Int} {b : BlkT} : fQ nb regs b = true ↔ (b.fin = 1 ∧ 0 ≤ b.tgt ∧ b.tgt < nb ∧ b.els = 0 ∧ b.reg = 0 ∨ b.fin = 2 ∧ 0 ≤ b.tgt ∧ b.tgt < nb ∧ 0 ≤ b.els ∧ b.els < nb ∧ 0 ≤ b.reg ∧ b.reg < regs ∨ b.fin = 3 ∧ 0 ≤ b.reg ∧ b.reg < regs ∧ b.tgt = 0 ∧ b.els = 0 ∨ b.fin = 4 ∧ 1 ≤ b.tgt ∧ b.tgt < 33554432 ∧ b.els = 0 ∧ b.reg = 0) := by
 unfold fQ
 (repeat' split) <;> (try simp only [Bool.and_eq_true, bp, decide_eq_true_eq]) <;> first | omega | (simp only [Bool.false_eq_true, false_iff]; omega)
theorem vin_bad {params regs : Int} {v : VInT} (h : (alV v.i.op = false ∨ 6 < (v.args.length : Int)) ∨ (¬ v.i.op = 6 ∧ 0 < (v.args.length : Int))) : false = eg params regs v := by
 unfold eg
 rcases h with (h | h) | ⟨h, z⟩
 ·
  rw [h]; simp
 ·
  rw [decide_eq_false (p := v.args.length ≤ 6) (by omega)]; simp
 ·
  rw [decide_eq_false (p := v.i.op = 6 ∨ v.args.length = 0) (by omega)]; simp
theorem imm0 {params op n : Int} (h : op = 3 ∨ op = 9 ∨ op = 15 ∨ op = 16 ∨ op = 10 ∨ (17 ≤ op ∧ op ≤ 32) ∨ op = 11 ∨ op = 12) : gK params op n = decide (n = 0) := by
 unfold gK
 rw [if_neg (by omega), if_neg (by omega), if_neg (by omega), if_neg (by omega), if_neg (by omega)]
def badV (av bv dv nv : Bool) (regs a b c n : Int) : Bool :=
 ((((((((av && (!(aJ regs a))) || (bv && (!(aJ regs b)))) || (dv && (!(aJ regs c)))) || ((!av) && (a != 0))) || ((!bv) && (b != 0))) || ((!dv) && (c != 0))) || ((!nv) && (n != 0))))
theorem bad_eq (av bv dv nv : Bool) (regs a b c n : Int) : badV av bv dv nv regs a b c n = !(dq av a regs && dq bv b regs && dq dv c regs && (nv || decide (n = 0))) := by
 have dne : ∀ n : Int, (n != 0) = !decide (n = 0) := fun n => by by_cases h : n = 0 <;> simp [h]
 unfold badV dq
 rw [dne, dne, dne, dne]
 generalize decide (a = 0) = z
 generalize decide (b = 0) = A
 generalize decide (c = 0) = I
 generalize decide (n = 0) = J
 generalize aJ regs a = O
 generalize aJ regs b = T
 generalize aJ regs c = U
 revert av bv dv nv z A I J O T U
 decide
section
variable {params regs : Int} {v : VInT}
theorem imm_form (hal : alV v.i.op = true) (h : (decide (aw v.i.op = 5 ∨ aw v.i.op = 7) || decide (v.i.n = 0)) = false) : gK params v.i.op v.i.n = false := by
 rw [Bool.or_eq_false_iff, decide_eq_false_iff_not, decide_eq_false_iff_not] at h
 rw [imm0 (by have := bc hal; omega)]
 exact decide_eq_false h.2
theorem kV (hal : alV v.i.op = true) (z : v.i.op = 6 ∨ v.args.length = 0) (hl : v.args.length ≤ 6) (hall : v.args.all (aJ regs) = true) : eg params regs v =
  (dq (decide (aw v.i.op ≠ 1)) v.i.a regs && dq (decide (aw v.i.op = 3 ∨ aw v.i.op = 4 ∨ aw v.i.op = 7)) v.i.b regs && dq (decide (aw v.i.op = 4)) v.i.c regs && gK params v.i.op v.i.n) := by
 unfold eg
 rw [hal, hall, decide_eq_true z, decide_eq_true hl]; simp
theorem vin_bad3 (hal : alV v.i.op = true) (z : v.i.op = 6 ∨ v.args.length = 0) (hl : v.args.length ≤ 6) (hall : v.args.all (aJ regs) = true)
  (h : badV (decide (aw v.i.op ≠ 1)) (decide (aw v.i.op = 3 ∨ aw v.i.op = 4 ∨ aw v.i.op = 7)) (decide (aw v.i.op = 4)) (decide (aw v.i.op = 5 ∨ aw v.i.op = 7)) regs v.i.a v.i.b v.i.c v.i.n = true) : false = eg params regs v := by
 rw [kV hal z hl hall]
 rw [bad_eq, Bool.not_eq_true', Bool.and_eq_false_iff] at h
 rcases h with h | h
 ·
  rw [h]; rfl
 ·
  rw [imm_form hal h, Bool.and_false]
theorem vin_good3 (hal : alV v.i.op = true) (A : v.i.op = 6 ∨ v.args.length = 0) (hl : v.args.length ≤ 6) (hall : v.args.all (aJ regs) = true)
  (h : badV (decide (aw v.i.op ≠ 1)) (decide (aw v.i.op = 3 ∨ aw v.i.op = 4 ∨ aw v.i.op = 7)) (decide (aw v.i.op = 4)) (decide (aw v.i.op = 5 ∨ aw v.i.op = 7)) regs v.i.a v.i.b v.i.c v.i.n = false) :
  eg params regs v = gK params v.i.op v.i.n ∧ (aw v.i.op = 5 ∨ aw v.i.op = 7 ∨ v.i.n = 0) := by
 rw [kV hal A hl hall]
 rw [bad_eq, Bool.not_eq_false', Bool.and_eq_true] at h
 refine ⟨by rw [h.1, Bool.true_and], ?_⟩
 have z := h.2
 rw [Bool.or_eq_true, decide_eq_true_eq, decide_eq_true_eq] at z
 omega
theorem vin_bad3v {av bv dv nv : Bool} (hal : alV v.i.op = true) (z : v.i.op = 6 ∨ v.args.length = 0) (hl : v.args.length ≤ 6) (hall : v.args.all (aJ regs) = true) (ha : av = decide (aw v.i.op ≠ 1)) (hb : bv = decide (aw v.i.op = 3 ∨ aw v.i.op = 4 ∨ aw v.i.op = 7)) (hd : dv = decide (aw v.i.op = 4)) (hn : nv = decide (aw v.i.op = 5 ∨ aw v.i.op = 7))
  (h : badV av bv dv nv regs v.i.a v.i.b v.i.c v.i.n = true) : false = eg params regs v := by subst ha hb hd hn; exact vin_bad3 hal z hl hall h
theorem vin_good3v {av bv dv nv : Bool} (hal : alV v.i.op = true) (z : v.i.op = 6 ∨ v.args.length = 0) (hl : v.args.length ≤ 6) (hall : v.args.all (aJ regs) = true) (ha : av = decide (aw v.i.op ≠ 1)) (hb : bv = decide (aw v.i.op = 3 ∨ aw v.i.op = 4 ∨ aw v.i.op = 7)) (hd : dv = decide (aw v.i.op = 4)) (hn : nv = decide (aw v.i.op = 5 ∨ aw v.i.op = 7))
  (h : badV av bv dv nv regs v.i.a v.i.b v.i.c v.i.n = false) : eg params regs v = gK params v.i.op v.i.n ∧ (aw v.i.op = 5 ∨ aw v.i.op = 7 ∨ v.i.n = 0) := by subst ha hb hd hn; exact vin_good3 hal z hl hall h
theorem dx (hal : alV v.i.op = true) (hn : aw v.i.op = 5 ∨ aw v.i.op = 7 ∨ v.i.n = 0) (z : ¬ v.i.op = 33) (A : ¬ v.i.op = 6) (I : ¬ (v.i.op = 34 ∨ v.i.op = 35)) (J : ¬ v.i.op = 38) : gK params v.i.op v.i.n = true := by
 unfold gK
 rw [if_neg z, if_neg A, if_neg I, if_neg J]
 split
 ·
  rfl
 ·
  have := bc hal
  exact decide_eq_true (by omega)
theorem refbad_eq : ((!(dq ((br v.i.op).form != 1) v.i.a regs)) || (!(dq ((((br v.i.op).form == 3) || ((br v.i.op).form == 4)) || ((br v.i.op).form == 7)) v.i.b regs)) || (!(dq ((br v.i.op).form == 4) v.i.c regs))) =
  !(dq (decide (aw v.i.op ≠ 1)) v.i.a regs && dq (decide (aw v.i.op = 3 ∨ aw v.i.op = 4 ∨ aw v.i.op = 7)) v.i.b regs && dq (decide (aw v.i.op = 4)) v.i.c regs) := by
 rw [vinf_form]
 have z : (aw v.i.op != 1) = decide (aw v.i.op ≠ 1) := by by_cases h : aw v.i.op = 1 <;> simp [h]
 have A : (((aw v.i.op == 3) || (aw v.i.op == 4)) || (aw v.i.op == 7)) = decide (aw v.i.op = 3 ∨ aw v.i.op = 4 ∨ aw v.i.op = 7) := by
  rw [Bool.eq_iff_iff]; simp [or_assoc]
 have I : (aw v.i.op == 4) = decide (aw v.i.op = 4) := by by_cases h : aw v.i.op = 4 <;> simp [h]
 rw [z, A, I, Bool.not_and, Bool.not_and]
theorem vin_rbad (hal : alV v.i.op = true) (z : v.i.op = 6 ∨ v.args.length = 0) (hl : v.args.length ≤ 6) (hall : v.args.all (aJ regs) = true)
  (h : ((!(dq ((br v.i.op).form != 1) v.i.a regs)) || (!(dq ((((br v.i.op).form == 3) || ((br v.i.op).form == 4)) || ((br v.i.op).form == 7)) v.i.b regs)) || (!(dq ((br v.i.op).form == 4) v.i.c regs))) = true) : false = eg params regs v := by
 rw [refbad_eq, Bool.not_eq_true'] at h
 rw [kV hal z hl hall, h]; rfl
theorem vin_rgood (hal : alV v.i.op = true) (z : v.i.op = 6 ∨ v.args.length = 0) (hl : v.args.length ≤ 6) (hall : v.args.all (aJ regs) = true)
  (h : ((!(dq ((br v.i.op).form != 1) v.i.a regs)) || (!(dq ((((br v.i.op).form == 3) || ((br v.i.op).form == 4)) || ((br v.i.op).form == 7)) v.i.b regs)) || (!(dq ((br v.i.op).form == 4) v.i.c regs))) = false) : eg params regs v = gK params v.i.op v.i.n := by
 rw [refbad_eq, Bool.not_eq_false'] at h
 rw [kV hal z hl hall, h, Bool.true_and]
end
theorem blk_no {params regs nb : Int} {b : BlkT} (h : b.ins.all (eg params regs) = false) : jZ params regs nb b = false := by unfold jZ; rw [h, Bool.false_and]
theorem iq {params regs nb : Int} {b : BlkT} (h : fQ nb regs b = false) : jZ params regs nb b = false := by unfold jZ; rw [h, Bool.and_false]
theorem ip {params regs nb : Int} {b : BlkT} (h : b.ins.all (eg params regs) = true) (z : fQ nb regs b = true) : jZ params regs nb b = true := by unfold jZ; rw [h, z]; rfl
theorem iA {c : VFnT} (h : c.blocks.all (jZ c.params c.regs c.blocks.length) = false) : false = eL c := by unfold eL; rw [h, Bool.and_false]
theorem val_lim {c : VFnT} (h : ¬ (0 ≤ c.params ∧ c.params ≤ 6 ∧ 0 ≤ c.regs ∧ c.regs ≤ 3000 ∧ 1 ≤ c.blocks.length ∧ c.blocks.length ≤ 1000)) : false = eL c := by unfold eL; rw [decide_eq_false h, Bool.false_and]
theorem val_yes {c : VFnT} (h : 0 ≤ c.params ∧ c.params ≤ 6 ∧ 0 ≤ c.regs ∧ c.regs ≤ 3000 ∧ 1 ≤ c.blocks.length ∧ c.blocks.length ≤ 1000) (z : c.blocks.all (jZ c.params c.regs c.blocks.length) = true) : true = eL c := by unfold eL; rw [decide_eq_true h, z]; rfl
end Go.Proofs.YtlabedbmgmfbaaaDoor.m2
