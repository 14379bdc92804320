/-
 Plain laws: what the functions compute answers as the statement says. No condition beyond those that each statement names.
-/
import Derived.Test.YtknafdcgpaejlaaDoorZGM1
noncomputable section
namespace Go.Proofs.YtknafdcgpaejlaaDoor.m2
open Go.R m1
set_option linter.unusedVariables false
set_option linter.unusedSimpArgs false
def aN (regs n : Int) : Bool := decide (0 ≤ n ∧ n < regs)
def aA (op : Int) : Int := if op = 38 then 5 else (aM op).form
def aJ (op : Int) : InfT := if op = 38 then ⟨⟨[]⟩, 5, false, true, false, false, 0⟩ else aM op
def dr (has : Bool) (n regs : Int) : Bool := bif has then aN regs n else decide (n = 0)
def gy (params op n : Int) : Bool := if op = 13 then true else if op = 33 then decide (-4194304 ≤ n ∧ n < 4194304) else if op = 6 then decide (0 ≤ n ∧ n < 8) else if op = 34 ∨ op = 35 then decide (0 ≤ n ∧ n < 4) else if op = 38 then decide (0 ≤ n ∧ n < params) else decide (n = 0)
def eI (params regs : Int) (v : VInT) : Bool :=
 alV v.i.op && decide (v.i.op = 6 ∨ v.args.length = 0) && decide (v.args.length ≤ 6) && v.args.all (aN regs) && dr (decide (aA v.i.op ≠ 1)) v.i.a regs &&
  dr (decide (aA v.i.op = 3 ∨ aA v.i.op = 4 ∨ aA v.i.op = 7)) v.i.b regs && dr (decide (aA v.i.op = 4)) v.i.c regs && gy params v.i.op v.i.n
def vendV (nb regs : Int) (b : BlkT) : Bool :=
 if b.fin = 1 then aN nb b.tgt && decide (b.els = 0) && decide (b.reg = 0)
 else if b.fin = 2 then aN nb b.tgt && aN nb b.els && aN regs b.reg
 else if b.fin = 3 then aN regs b.reg && decide (b.tgt = 0) && decide (b.els = 0)
 else if b.fin = 4 then decide (1 ≤ b.tgt ∧ b.tgt < 33554432) && decide (b.els = 0) && decide (b.reg = 0) else false
def kD (params regs nb : Int) (b : BlkT) : Bool := b.ins.all (eI params regs) && vendV nb regs b
def cx (c : VFnT) : Bool := decide (0 ≤ c.params ∧ c.params ≤ 6 ∧ 0 ≤ c.regs ∧ c.regs ≤ 3000 ∧ 1 ≤ c.blocks.length ∧ c.blocks.length ≤ 1000) && c.blocks.all (kD c.params c.regs c.blocks.length)
theorem aZ {op : Int} (h : alV op = true) : (op = 3 ∧ aA op = 1) ∨ ((op = 6 ∨ op = 13 ∨ op = 33 ∨ op = 38) ∧ aA op = 5) ∨ ((op = 9 ∨ op = 15 ∨ op = 16) ∧ aA op = 2) ∨ ((op = 10 ∨ (17 ≤ op ∧ op ≤ 32)) ∧ aA op = 3) ∨ ((op = 11 ∨ op = 12) ∧ aA op = 4) ∨ ((op = 34 ∨ op = 35) ∧ aA op = 7) := by
 unfold alV at h
 have h := of_decide_eq_true h
 have e : ∃ k : Fin 39, op = (k.val : Int) := ⟨⟨op.toNat, by omega⟩, by simp; omega⟩
 obtain ⟨k, rfl⟩ := e
 revert k
 decide
theorem eh {α : Type} [Inhabited α] {p : α → Bool} {l : List α} : ∀ j, j < 0 → p (l.getD j default) = true := fun j h => by omega
theorem cQ {α : Type} [Inhabited α] {p : α → Bool} {l : List α} {k : Nat} (h : ∀ j, j < k → p (l.getD j default) = true) (c : p (l.getD k default) = true) : ∀ j, j < k + 1 → p (l.getD j default) = true := fun j hj => by
 rcases Nat.lt_succ_iff_lt_or_eq.1 hj with z | rfl
 ·
  exact h j z
 exact c
theorem eY {α : Type} [Inhabited α] {p : α → Bool} {l : List α} {k : Nat} (h : ∀ j, j < k → p (l.getD j default) = true) (hk : l.length ≤ k) : l.all p = true := by
 rw [a0v]
 intro x hx
 obtain ⟨j, hj, rfl⟩ := a0D.1 hx
 have := h j (by omega)
 rwa [a01, a03 hj] at this
theorem all_at {α : Type} [Inhabited α] {p : α → Bool} {l : List α} (h : l.all p = true) {k : Nat} (hk : k < l.length) : p (l.getD k default) = true := a0v.1 h _ (by rw [a01, a03 hk]; exact a1l hk)
theorem dH {α : Type} [Inhabited α] {p : α → Bool} {l : List α} {k : Nat} (hk : k < l.length) (c : p (l.getD k default) = false) : l.all p = false := by
 cases h : l.all p with
 | false => rfl
 | true => rw [all_at h hk] at c; cases c
theorem vin_no {params regs : Int} {v : VInT} (h : v.args.all (aN regs) = false) : false = eI params regs v := by unfold eI; rw [h]; simp
theorem vin_bad2 {params regs : Int} {v : VInT} (h : (alV v.i.op = false ∨ v.i.op ≠ 6 ∧ 0 < (v.args.length : Int)) ∨ 6 < (v.args.length : Int)) : false = eI params regs v := by
 unfold eI
 rcases h with (h | ⟨h, z⟩) | h
 ·
  rw [h]; simp
 ·
  rw [decide_eq_false (p := v.i.op = 6 ∨ v.args.length = 0) (by omega)]; simp
 rw [decide_eq_false (p := v.args.length ≤ 6) (by omega)]; simp
theorem vinf_form {op : Int} : (aJ op).form = aA op := by unfold aJ aA; split <;> rfl
theorem aV {r n : Int} : aN r n = true ↔ 0 ≤ n ∧ n < r := by unfold aN; exact decide_eq_true_iff
theorem cU {r n : Int} : aN r n = false ↔ ¬ (0 ≤ n ∧ n < r) := by unfold aN; exact decide_eq_false_iff_not
theorem bL {nb regs : Int} {b : BlkT} : vendV nb regs b = true ↔ (b.fin = 1 ∧ 0 ≤ b.tgt ∧ b.tgt < nb ∧ b.els = 0 ∧ b.reg = 0 ∨ b.fin = 2 ∧ 0 ≤ b.tgt ∧ b.tgt < nb ∧ 0 ≤ b.els ∧ b.els < nb ∧ 0 ≤ b.reg ∧ b.reg < regs ∨ b.fin = 3 ∧ 0 ≤ b.reg ∧ b.reg < regs ∧ b.tgt = 0 ∧ b.els = 0 ∨ b.fin = 4 ∧ 1 ≤ b.tgt ∧ b.tgt < 33554432 ∧ b.els = 0 ∧ b.reg = 0) := by
 unfold vendV
 (repeat' split) <;> (try simp only [a0c, aV, decide_eq_true_eq]) <;> first | omega | (simp only [a0N, false_iff]; omega)
theorem vin_bad {params regs : Int} {v : VInT} (h : (alV v.i.op = false ∨ 6 < (v.args.length : Int)) ∨ (¬ v.i.op = 6 ∧ 0 < (v.args.length : Int))) : false = eI params regs v := by
 unfold eI
 rcases h with (h | h) | ⟨h, z⟩
 ·
  rw [h]; simp
 ·
  rw [decide_eq_false (p := v.args.length ≤ 6) (by omega)]; simp
 rw [decide_eq_false (p := v.i.op = 6 ∨ v.args.length = 0) (by omega)]; simp
theorem imm0 {params op n : Int} (h : op = 3 ∨ op = 9 ∨ op = 15 ∨ op = 16 ∨ op = 10 ∨ (17 ≤ op ∧ op ≤ 32) ∨ op = 11 ∨ op = 12) : gy params op n = decide (n = 0) := by
 unfold gy
 rw [if_neg (by omega), if_neg (by omega), if_neg (by omega), if_neg (by omega), if_neg (by omega)]
def badV (av bv dv nv : Bool) (regs a b c n : Int) : Bool :=
 ((((((((av && (!(aN regs a))) || (bv && (!(aN regs b)))) || (dv && (!(aN regs c)))) || ((!av) && (a != 0))) || ((!bv) && (b != 0))) || ((!dv) && (c != 0))) || ((!nv) && (n != 0))))
theorem bad_eq (av bv dv nv : Bool) (regs a b c n : Int) : badV av bv dv nv regs a b c n = !(dr av a regs && dr bv b regs && dr dv c regs && (nv || decide (n = 0))) := by
 have dne : ∀ n : Int, (n != 0) = !decide (n = 0) := fun n => by by_cases h : n = 0 <;> simp [h]
 unfold badV dr
 rw [dne, dne, dne, dne]
 generalize decide (a = 0) = z
 generalize decide (b = 0) = A
 generalize decide (c = 0) = E
 generalize decide (n = 0) = J
 generalize aN regs a = N
 generalize aN regs b = T
 generalize aN regs c = U
 revert av bv dv nv z A E J N T U
 decide
section
variable {params regs : Int} {v : VInT}
theorem imm_form (hal : alV v.i.op = true) (h : (decide (aA v.i.op = 5 ∨ aA v.i.op = 7) || decide (v.i.n = 0)) = false) : gy params v.i.op v.i.n = false := by
 rw [Bool.or_eq_false_iff, decide_eq_false_iff_not, decide_eq_false_iff_not] at h
 rw [imm0 (by have := aZ hal; omega)]
 exact decide_eq_false h.2
theorem jZ (hal : alV v.i.op = true) (z : v.i.op = 6 ∨ v.args.length = 0) (hl : v.args.length ≤ 6) (hall : v.args.all (aN regs) = true) : eI params regs v =
  (dr (decide (aA v.i.op ≠ 1)) v.i.a regs && dr (decide (aA v.i.op = 3 ∨ aA v.i.op = 4 ∨ aA v.i.op = 7)) v.i.b regs && dr (decide (aA v.i.op = 4)) v.i.c regs && gy params v.i.op v.i.n) := by
 unfold eI
 rw [hal, hall, decide_eq_true z, decide_eq_true hl]; simp
theorem vin_bad3 (hal : alV v.i.op = true) (z : v.i.op = 6 ∨ v.args.length = 0) (hl : v.args.length ≤ 6) (hall : v.args.all (aN regs) = true)
  (h : badV (decide (aA v.i.op ≠ 1)) (decide (aA v.i.op = 3 ∨ aA v.i.op = 4 ∨ aA v.i.op = 7)) (decide (aA v.i.op = 4)) (decide (aA v.i.op = 5 ∨ aA v.i.op = 7)) regs v.i.a v.i.b v.i.c v.i.n = true) : false = eI params regs v := by
 rw [jZ hal z hl hall]
 rw [bad_eq, a0L, Bool.and_eq_false_iff] at h
 rcases h with h | h
 ·
  rw [h]; rfl
 rw [imm_form hal h, a1S]
theorem vin_good3 (hal : alV v.i.op = true) (A : v.i.op = 6 ∨ v.args.length = 0) (hl : v.args.length ≤ 6) (hall : v.args.all (aN regs) = true)
  (h : badV (decide (aA v.i.op ≠ 1)) (decide (aA v.i.op = 3 ∨ aA v.i.op = 4 ∨ aA v.i.op = 7)) (decide (aA v.i.op = 4)) (decide (aA v.i.op = 5 ∨ aA v.i.op = 7)) regs v.i.a v.i.b v.i.c v.i.n = false) :
  eI params regs v = gy params v.i.op v.i.n ∧ (aA v.i.op = 5 ∨ aA v.i.op = 7 ∨ v.i.n = 0) := by
 rw [jZ hal A hl hall]
 rw [bad_eq, Bool.not_eq_false', a0c] at h
 refine ⟨by rw [h.1, a1y], ?_⟩
 have z := h.2
 rw [a0O, decide_eq_true_eq, decide_eq_true_eq] at z
 omega
theorem vin_bad3v {av bv dv nv : Bool} (hal : alV v.i.op = true) (z : v.i.op = 6 ∨ v.args.length = 0) (hl : v.args.length ≤ 6) (hall : v.args.all (aN regs) = true) (ha : av = decide (aA v.i.op ≠ 1)) (hb : bv = decide (aA v.i.op = 3 ∨ aA v.i.op = 4 ∨ aA v.i.op = 7)) (hd : dv = decide (aA v.i.op = 4)) (hn : nv = decide (aA v.i.op = 5 ∨ aA v.i.op = 7))
  (h : badV av bv dv nv regs v.i.a v.i.b v.i.c v.i.n = true) : false = eI params regs v := by subst ha hb hd hn; exact vin_bad3 hal z hl hall h
theorem vin_good3v {av bv dv nv : Bool} (hal : alV v.i.op = true) (z : v.i.op = 6 ∨ v.args.length = 0) (hl : v.args.length ≤ 6) (hall : v.args.all (aN regs) = true) (ha : av = decide (aA v.i.op ≠ 1)) (hb : bv = decide (aA v.i.op = 3 ∨ aA v.i.op = 4 ∨ aA v.i.op = 7)) (hd : dv = decide (aA v.i.op = 4)) (hn : nv = decide (aA v.i.op = 5 ∨ aA v.i.op = 7))
  (h : badV av bv dv nv regs v.i.a v.i.b v.i.c v.i.n = false) : eI params regs v = gy params v.i.op v.i.n ∧ (aA v.i.op = 5 ∨ aA v.i.op = 7 ∨ v.i.n = 0) := by subst ha hb hd hn; exact vin_good3 hal z hl hall h
theorem dh (hal : alV v.i.op = true) (hn : aA v.i.op = 5 ∨ aA v.i.op = 7 ∨ v.i.n = 0) (z : ¬ v.i.op = 33) (A : ¬ v.i.op = 6) (E : ¬ (v.i.op = 34 ∨ v.i.op = 35)) (J : ¬ v.i.op = 38) : gy params v.i.op v.i.n = true := by
 unfold gy
 rw [if_neg z, if_neg A, if_neg E, if_neg J]
 split
 ·
  rfl
 have := aZ hal
 exact decide_eq_true (by omega)
theorem refbad_eq : ((!(dr ((aJ v.i.op).form != 1) v.i.a regs)) || (!(dr ((((aJ v.i.op).form == 3) || ((aJ v.i.op).form == 4)) || ((aJ v.i.op).form == 7)) v.i.b regs)) || (!(dr ((aJ v.i.op).form == 4) v.i.c regs))) =
  !(dr (decide (aA v.i.op ≠ 1)) v.i.a regs && dr (decide (aA v.i.op = 3 ∨ aA v.i.op = 4 ∨ aA v.i.op = 7)) v.i.b regs && dr (decide (aA v.i.op = 4)) v.i.c regs) := by
 rw [vinf_form]
 have z : (aA v.i.op != 1) = decide (aA v.i.op ≠ 1) := by by_cases h : aA v.i.op = 1 <;> simp [h]
 have A : (((aA v.i.op == 3) || (aA v.i.op == 4)) || (aA v.i.op == 7)) = decide (aA v.i.op = 3 ∨ aA v.i.op = 4 ∨ aA v.i.op = 7) := by
  rw [a0p]; simp [or_assoc]
 have E : (aA v.i.op == 4) = decide (aA v.i.op = 4) := by by_cases h : aA v.i.op = 4 <;> simp [h]
 rw [z, A, E, Bool.not_and, Bool.not_and]
theorem vin_rbad (hal : alV v.i.op = true) (z : v.i.op = 6 ∨ v.args.length = 0) (hl : v.args.length ≤ 6) (hall : v.args.all (aN regs) = true)
  (h : ((!(dr ((aJ v.i.op).form != 1) v.i.a regs)) || (!(dr ((((aJ v.i.op).form == 3) || ((aJ v.i.op).form == 4)) || ((aJ v.i.op).form == 7)) v.i.b regs)) || (!(dr ((aJ v.i.op).form == 4) v.i.c regs))) = true) : false = eI params regs v := by
 rw [refbad_eq, a0L] at h
 rw [jZ hal z hl hall, h]; rfl
theorem vin_rgood (hal : alV v.i.op = true) (z : v.i.op = 6 ∨ v.args.length = 0) (hl : v.args.length ≤ 6) (hall : v.args.all (aN regs) = true)
  (h : ((!(dr ((aJ v.i.op).form != 1) v.i.a regs)) || (!(dr ((((aJ v.i.op).form == 3) || ((aJ v.i.op).form == 4)) || ((aJ v.i.op).form == 7)) v.i.b regs)) || (!(dr ((aJ v.i.op).form == 4) v.i.c regs))) = false) : eI params regs v = gy params v.i.op v.i.n := by
 rw [refbad_eq, Bool.not_eq_false'] at h
 rw [jZ hal z hl hall, h, a1y]
end
theorem blk_no {params regs nb : Int} {b : BlkT} (h : b.ins.all (eI params regs) = false) : kD params regs nb b = false := by unfold kD; rw [h, a1R]
theorem gG {params regs nb : Int} {b : BlkT} (h : vendV nb regs b = false) : kD params regs nb b = false := by unfold kD; rw [h, a1S]
theorem gF {params regs nb : Int} {b : BlkT} (h : b.ins.all (eI params regs) = true) (z : vendV nb regs b = true) : kD params regs nb b = true := by unfold kD; rw [h, z]; rfl
theorem gH {c : VFnT} (h : c.blocks.all (kD c.params c.regs c.blocks.length) = false) : false = cx c := by unfold cx; rw [h, a1S]
theorem val_lim {c : VFnT} (h : ¬ (0 ≤ c.params ∧ c.params ≤ 6 ∧ 0 ≤ c.regs ∧ c.regs ≤ 3000 ∧ 1 ≤ c.blocks.length ∧ c.blocks.length ≤ 1000)) : false = cx c := by unfold cx; rw [decide_eq_false h, a1R]
theorem val_yes {c : VFnT} (h : 0 ≤ c.params ∧ c.params ≤ 6 ∧ 0 ≤ c.regs ∧ c.regs ≤ 3000 ∧ 1 ≤ c.blocks.length ∧ c.blocks.length ≤ 1000) (z : c.blocks.all (kD c.params c.regs c.blocks.length) = true) : true = cx c := by unfold cx; rw [decide_eq_true h, z]; rfl
end Go.Proofs.YtknafdcgpaejlaaDoor.m2
