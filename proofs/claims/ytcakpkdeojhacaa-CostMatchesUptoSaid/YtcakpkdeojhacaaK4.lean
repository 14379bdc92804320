/-
  The generator of nodes, function by function, each by a symbolic run: it answers, and its lists stay small. No condition but that arguments are words.
-/
import Derived.Test.YtcakpkdeojhacaaK3
noncomputable section
namespace Go.Proofs.Ytcakpkdeojhacaa.k4
open Go.R
set_option maxRecDepth 10000
set_option linter.unusedVariables false
theorem ql {H : Heap} {b o : Nat} {cs : List Value} {w : Value} (t : TypeId) (i : Nat) (hc : HC H.get b o cs) (ha : aggOf Try.prog t = some false) (hv : cs[i]? = some w) : LDv Try.prog H t (.pointer (some ⟨b, o + i, none⟩)) w := ld1 hc ha hv
theorem qn {H : Heap} {b o : Nat} {cs l : List Value} (t : TypeId) (i n : Nat) (hc : HC H.get b o cs) (ha : aggOf Try.prog t = some true) (hs : szOf Try.prog t = some n) (hn : Nat.ble (i + n) cs.length = true) (hl : takeL (dropL cs i) n = l) : LDv Try.prog H t (.pointer (some ⟨b, o + i, none⟩)) (.agg ⟨l⟩) := ldN hc ha hs hn hl
open k1 k2 k3
def arV (op : Int) : Int := if op = 1 ∨ op = 2 ∨ op = 3 ∨ op = 26 then 0 else if op = 20 ∨ op = 21 ∨ op = 24 ∨ op = 25 then 1 else if (4 ≤ op ∧ op ≤ 19) ∨ op = 23 ∨ op = 27 ∨ op = 29 then 2 else if op = 22 ∨ op = 28 then 3 else if op = 30 ∨ op = 31 then (-1) else 0
def arOk (op : Int) : Bool := decide (1 ≤ op ∧ op ≤ 31)
def mxV (op : Int) : Int := if op = 2 then 5 else if op = 3 then 255 else if op = 23 ∨ op = 28 then 3 else if op = 27 then 1000016 else if op = 30 then 7 else if op = 31 ∨ op = 25 then 15 else -1
theorem mxV_at {op k r : Int} (h : op = k) (h2 : r = mxV k) : r = mxV op := by rw [h]; exact h2
def viV (op n : Int) : Bool := if op = 1 then true else if mxV op < 0 then decide (n = 0) else decide (0 ≤ n ∧ n ≤ mxV op ∧ (op = 27 → 0 < n))
theorem arOk_of {op : Int} {b : Bool} (h : b = true ↔ (1 ≤ op ∧ op ≤ 31)) : b = arOk op := by unfold arOk; cases b <;> simp_all
def sortV (op : Int) : Int := if op = 27 ∨ op = 28 ∨ op = 29 then 2 else 1
def srV (op k : Int) : Int := if k = 0 ∧ (op = 27 ∨ op = 28 ∨ op = 29 ∨ op = 23 ∨ op = 24) then 2 else 1
theorem srV_or (op k : Int) : srV op k = 1 ∨ srV op k = 2 := by unfold srV; split <;> simp
/-- Operations that the generator uses. -/
def okOp (op : Int) : Prop := op = 1 ∨ op = 2 ∨ (4 ≤ op ∧ op ≤ 24) ∨ (26 ≤ op ∧ op ≤ 29)
structure NdOK (l : Nds) : Prop where
  ok : ∀ x ∈ l, okOp x.op
  l3 : 3 ≤ l.length
  n0 : (l.getD 0 default).op = 2 ∧ (l.getD 0 default).imm = 0 ∧ (l.getD 0 default).kids = []
  n2 : (l.getD 2 default).op = 26 ∧ (l.getD 2 default).imm = 0 ∧ (l.getD 2 default).kids = []
theorem ns_bad {op imm : Int} {kids : List Int} (e2 : op = 2 → imm = 0 → kids = [] → arOk op = true ∧ arV op = 0 ∧ viV op imm = true) (e26 : op = 26 → imm = 0 → kids = [] → arOk op = true ∧ arV op = 0 ∧ viV op imm = true)
    (c : (((!(arOk op)) || ((decide ((0 : Int) ≤ arV op)) && ((kids.length : Int) != arV op))) || (!(viV op imm))) = true) : (op = 2 → imm = 0 → kids = [] → (0 : Int) = 1) ∧ (op = 26 → imm = 0 → kids = [] → (0 : Int) = 2) := by
  refine ⟨fun a1 a2 a3 => ?_, fun a1 a2 a3 => ?_⟩
  · exfalso
    obtain ⟨h1, h2, h3⟩ := e2 a1 a2 a3
    rw [h1, h2, h3, a3] at c; simp at c
  · exfalso
    obtain ⟨h1, h2, h3⟩ := e26 a1 a2 a3
    rw [h1, h2, h3, a3] at c; simp at c
theorem ns_one {k kids : List Int} {b : Bool} (hk : k.length = kids.length) (h : kids = []) (hb : k.length = 0 → b = true) : (if b = true then (1 : Int) else 0) = 1 := by
  rw [hb (by rw [hk, h]; rfl)]; rfl
theorem okOp_at {l : Nds} {i : Nat} (h : ∀ x ∈ l, okOp x.op) (hi : i < l.length) : okOp (l.getD i default).op := h _ (getD_mem hi)

theorem arity_c (ex : FuncId) (op : Int) (H : Heap) : C Try.prog 0 (KX ex) 33 [(.int .i64 op)] H fun v H' => ∃ (a : Int) (o : Bool), H' = H ∧ v = .tuple ⟨[.int .i64 a, .bool o]⟩ ∧ a = arV op ∧ o = arOk op := by
  refine c_enter Try.func33 rfl rfl ?_
  refine wk_foc 1 rfl ?_
  refine wr 4 [] 2 3 [] [(2, (.int .i64 0)), (3, (.bool false))] trivial (by kernel_rfl) rfl fun gg1 => ?_
  refine wr 1 [] 4 18 [] [(4, (.bool ((((op == 1) || (op == 2)) || (op == 3)) || (op == 26))))] trivial (by kernel_rfl) rfl fun gg2 => ?_
  refine wk_if 1 1 (v := ((((op == 1) || (op == 2)) || (op == 3)) || (op == 26))) rfl rfl rfl rfl (fun c3b => ?_) (fun c3b => ?_)
  · have c3 := c3b
    try simp only [BS] at c3
    refine wr 1 [] 2 3 [] [(2, (.int .i64 0)), (3, (.bool true))] trivial (by kernel_rfl) rfl fun gg4 => ?_
    refine wk_ret ⟨.inr rfl, _, rfl, 0, true, rfl, rfl, (by first | (unfold arV; (repeat' split) <;> omega) | (exact arOk_of (by simp; omega))), (by first | (unfold arV; (repeat' split) <;> omega) | (exact arOk_of (by simp; omega)))⟩
  · have c3 := c3b
    try simp only [BS] at c3
    refine wr 1 [] 19 33 [] [(19, (.bool ((((op == 20) || (op == 21)) || (op == 24)) || (op == 25))))] trivial (by kernel_rfl) rfl fun gg5 => ?_
    refine wk_if 1 1 (v := ((((op == 20) || (op == 21)) || (op == 24)) || (op == 25))) rfl rfl rfl rfl (fun c6b => ?_) (fun c6b => ?_)
    · have c6 := c6b
      try simp only [BS] at c6
      refine wr 1 [] 2 3 [] [(2, (.int .i64 1)), (3, (.bool true))] trivial (by kernel_rfl) rfl fun gg7 => ?_
      refine wk_ret ⟨.inr rfl, _, rfl, 1, true, rfl, rfl, (by first | (unfold arV; (repeat' split) <;> omega) | (exact arOk_of (by simp; omega))), (by first | (unfold arV; (repeat' split) <;> omega) | (exact arOk_of (by simp; omega)))⟩
    · have c6 := c6b
      try simp only [BS] at c6
      refine wr 1 [] 34 52 [] [(34, (.bool (((((decide ((4 : Int) ≤ op)) && (decide (op ≤ 19))) || (op == 23)) || (op == 27)) || (op == 29))))] trivial (by kernel_rfl) rfl fun gg8 => ?_
      refine wk_if 1 1 (v := (((((decide ((4 : Int) ≤ op)) && (decide (op ≤ 19))) || (op == 23)) || (op == 27)) || (op == 29))) rfl rfl rfl rfl (fun c9b => ?_) (fun c9b => ?_)
      · have c9 := c9b
        try simp only [BS] at c9
        refine wr 1 [] 2 3 [] [(2, (.int .i64 2)), (3, (.bool true))] trivial (by kernel_rfl) rfl fun gg10 => ?_
        refine wk_ret ⟨.inr rfl, _, rfl, 2, true, rfl, rfl, (by first | (unfold arV; (repeat' split) <;> omega) | (exact arOk_of (by simp; omega))), (by first | (unfold arV; (repeat' split) <;> omega) | (exact arOk_of (by simp; omega)))⟩
      · have c9 := c9b
        try simp only [BS] at c9
        refine wr 1 [] 53 59 [] [(53, (.bool ((op == 22) || (op == 28))))] trivial (by kernel_rfl) rfl fun gg11 => ?_
        refine wk_if 1 1 (v := ((op == 22) || (op == 28))) rfl rfl rfl rfl (fun c12b => ?_) (fun c12b => ?_)
        · have c12 := c12b
          try simp only [BS] at c12
          refine wr 1 [] 2 3 [] [(2, (.int .i64 3)), (3, (.bool true))] trivial (by kernel_rfl) rfl fun gg13 => ?_
          refine wk_ret ⟨.inr rfl, _, rfl, 3, true, rfl, rfl, (by first | (unfold arV; (repeat' split) <;> omega) | (exact arOk_of (by simp; omega))), (by first | (unfold arV; (repeat' split) <;> omega) | (exact arOk_of (by simp; omega)))⟩
        · have c12 := c12b
          try simp only [BS] at c12
          refine wr 1 [] 60 66 [] [(60, (.bool ((op == 30) || (op == 31))))] trivial (by kernel_rfl) rfl fun gg14 => ?_
          refine wk_if 1 3 (v := ((op == 30) || (op == 31))) rfl rfl rfl rfl (fun c15b => ?_) (fun c15b => ?_)
          · have c15 := c15b
            try simp only [BS] at c15
            refine wr 1 [] 2 3 [] [(2, (.int .i64 (-1))), (3, (.bool true))] trivial (by kernel_rfl) rfl fun gg16 => ?_
            refine wk_ret ⟨.inr rfl, _, rfl, (-1), true, rfl, rfl, (by first | (unfold arV; (repeat' split) <;> omega) | (exact arOk_of (by simp; omega))), (by first | (unfold arV; (repeat' split) <;> omega) | (exact arOk_of (by simp; omega)))⟩
          · have c15 := c15b
            try simp only [BS] at c15
            refine wr 1 [] 2 3 [] [(2, (.int .i64 0)), (3, (.bool false))] trivial (by kernel_rfl) rfl fun gg17 => ?_
            refine wk_ret ⟨.inr rfl, _, rfl, 0, false, rfl, rfl, (by first | (unfold arV; (repeat' split) <;> omega) | (exact arOk_of (by simp; omega))), (by first | (unfold arV; (repeat' split) <;> omega) | (exact arOk_of (by simp; omega)))⟩

theorem arity_c_q (ex : FuncId) (op : Int) (H : Heap) : C Try.prog 0 (KX ex) 33 [(.int .i64 op)] H fun v H' => v = (.tuple ⟨[(.int .i64 (arV op)), (.bool (arOk op))]⟩) ∧ H' = H :=
  cq (arity_c ex op H) (by rintro _ _ ⟨_, _, rfl, rfl, rfl, rfl⟩; exact ⟨rfl, rfl⟩)

theorem maxImm_c (ex : FuncId) (op : Int) (H : Heap) : C Try.prog 0 (KX ex) 90 [(.int .i64 op)] H fun v H' => ∃ (r : Int), H' = H ∧ v = .int .i64 r ∧ r = mxV op := by
  refine c_enter Try.func90 rfl rfl ?_
  refine wk_foc 1 rfl ?_
  refine wr 3 [] 2 2 [] [(2, (.int .i64 0))] trivial (by kernel_rfl) rfl fun gg1 => ?_
  refine wr 3 [] 3 3 [] [(3, (.int .i64 op))] trivial (by kernel_rfl) rfl fun gg2 => ?_
  refine wr 1 [] 4 5 [] [(4, (.bool (op == 2)))] trivial (by kernel_rfl) rfl fun gg3 => ?_
  refine wk_if 1 1 (v := (op == 2)) rfl rfl rfl rfl (fun c4b => ?_) (fun c4b => ?_)
  · have c4 := c4b
    try simp only [BS] at c4
    refine wr 1 [] 2 2 [] [(2, (.int .i64 5))] trivial (by kernel_rfl) rfl fun gg5 => ?_
    refine wk_ret ⟨.inr rfl, _, rfl, 5, rfl, rfl, (by first | exact mxV_at (by assumption) (by decide) | (unfold mxV; (repeat' split) <;> omega))⟩
  · have c4 := c4b
    try simp only [BS] at c4
    refine wr 1 [] 6 7 [] [(6, (.bool (op == 3)))] trivial (by kernel_rfl) rfl fun gg6 => ?_
    refine wk_if 1 2 (v := (op == 3)) rfl rfl rfl rfl (fun c7b => ?_) (fun c7b => ?_)
    · have c7 := c7b
      try simp only [BS] at c7
      refine wr 1 [] 2 2 [] [(2, (.int .i64 255))] trivial (by kernel_rfl) rfl fun gg8 => ?_
      refine wk_ret ⟨.inr rfl, _, rfl, 255, rfl, rfl, (by first | exact mxV_at (by assumption) (by decide) | (unfold mxV; (repeat' split) <;> omega))⟩
    · have c7 := c7b
      try simp only [BS] at c7
      refine wr 1 [] 8 9 [] [(8, (.bool (op == 23)))] trivial (by kernel_rfl) rfl fun gg9 => ?_
      refine wk_if 1 0 (v := (op == 23)) rfl rfl rfl rfl (fun c10b => ?_) (fun c10b => ?_)
      · have c10 := c10b
        try simp only [BS] at c10
        refine wk_ift 1 (v := (op == 23)) rfl c10b rfl rfl ?_
        refine wr 1 [] 2 2 [] [(2, (.int .i64 3))] trivial (by kernel_rfl) rfl fun gg11 => ?_
        refine wk_ret ⟨.inr rfl, _, rfl, 3, rfl, rfl, (by first | exact mxV_at (by assumption) (by decide) | (unfold mxV; (repeat' split) <;> omega))⟩
      · have c10 := c10b
        try simp only [BS] at c10
        refine wr 1 [] 8 10 [] [(8, (.bool (op == 28)))] trivial (by kernel_rfl) rfl fun gg12 => ?_
        refine wk_if 1 1 (v := (op == 28)) rfl rfl rfl rfl (fun c13b => ?_) (fun c13b => ?_)
        · have c13 := c13b
          try simp only [BS] at c13
          refine wr 1 [] 2 2 [] [(2, (.int .i64 3))] trivial (by kernel_rfl) rfl fun gg14 => ?_
          refine wk_ret ⟨.inr rfl, _, rfl, 3, rfl, rfl, (by first | exact mxV_at (by assumption) (by decide) | (unfold mxV; (repeat' split) <;> omega))⟩
        · have c13 := c13b
          try simp only [BS] at c13
          refine wr 1 [] 11 12 [] [(11, (.bool (op == 27)))] trivial (by kernel_rfl) rfl fun gg15 => ?_
          refine wk_if 1 1 (v := (op == 27)) rfl rfl rfl rfl (fun c16b => ?_) (fun c16b => ?_)
          · have c16 := c16b
            try simp only [BS] at c16
            refine wr 1 [] 2 2 [] [(2, (.int .i64 1000016))] trivial (by kernel_rfl) rfl fun gg17 => ?_
            refine wk_ret ⟨.inr rfl, _, rfl, 1000016, rfl, rfl, (by first | exact mxV_at (by assumption) (by decide) | (unfold mxV; (repeat' split) <;> omega))⟩
          · have c16 := c16b
            try simp only [BS] at c16
            refine wr 1 [] 13 14 [] [(13, (.bool (op == 30)))] trivial (by kernel_rfl) rfl fun gg18 => ?_
            refine wk_if 1 1 (v := (op == 30)) rfl rfl rfl rfl (fun c19b => ?_) (fun c19b => ?_)
            · have c19 := c19b
              try simp only [BS] at c19
              refine wr 1 [] 2 2 [] [(2, (.int .i64 7))] trivial (by kernel_rfl) rfl fun gg20 => ?_
              refine wk_ret ⟨.inr rfl, _, rfl, 7, rfl, rfl, (by first | exact mxV_at (by assumption) (by decide) | (unfold mxV; (repeat' split) <;> omega))⟩
            · have c19 := c19b
              try simp only [BS] at c19
              refine wr 1 [] 15 16 [] [(15, (.bool (op == 31)))] trivial (by kernel_rfl) rfl fun gg21 => ?_
              refine wk_if 1 1 (v := (op == 31)) rfl rfl rfl rfl (fun c22b => ?_) (fun c22b => ?_)
              · have c22 := c22b
                try simp only [BS] at c22
                refine wr 1 [] 2 2 [] [(2, (.int .i64 15))] trivial (by kernel_rfl) rfl fun gg23 => ?_
                refine wk_ret ⟨.inr rfl, _, rfl, 15, rfl, rfl, (by first | exact mxV_at (by assumption) (by decide) | (unfold mxV; (repeat' split) <;> omega))⟩
              · have c22 := c22b
                try simp only [BS] at c22
                refine wr 1 [] 17 18 [] [(17, (.bool (op == 25)))] trivial (by kernel_rfl) rfl fun gg24 => ?_
                refine wk_if 1 3 (v := (op == 25)) rfl rfl rfl rfl (fun c25b => ?_) (fun c25b => ?_)
                · have c25 := c25b
                  try simp only [BS] at c25
                  refine wr 1 [] 2 2 [] [(2, (.int .i64 15))] trivial (by kernel_rfl) rfl fun gg26 => ?_
                  refine wk_ret ⟨.inr rfl, _, rfl, 15, rfl, rfl, (by first | exact mxV_at (by assumption) (by decide) | (unfold mxV; (repeat' split) <;> omega))⟩
                · have c25 := c25b
                  try simp only [BS] at c25
                  refine wr 1 [] 2 2 [] [(2, (.int .i64 (-1)))] trivial (by kernel_rfl) rfl fun gg27 => ?_
                  refine wk_ret ⟨.inr rfl, _, rfl, (-1), rfl, rfl, (by first | exact mxV_at (by assumption) (by decide) | (unfold mxV; (repeat' split) <;> omega))⟩

theorem maxImm_c_q (ex : FuncId) (op : Int) (H : Heap) : C Try.prog 0 (KX ex) 90 [(.int .i64 op)] H fun v H' => v = (.int .i64 (mxV op)) ∧ H' = H :=
  cq (maxImm_c ex op H) (by rintro _ _ ⟨_, rfl, rfl, rfl⟩; exact ⟨rfl, rfl⟩)

theorem validImm_c (ex : FuncId) (op : Int) (n : Int) (H : Heap) : C Try.prog 0 (KX ex) 78 [(.int .i64 op), (.int .i64 n)] H fun v H' => ∃ (r : Bool), H' = H ∧ v = .bool r ∧ r = viV op n := by
  refine c_enter Try.func78 rfl rfl ?_
  refine wk_foc 1 rfl ?_
  refine wr 3 [] 4 4 [] [(4, (.bool false))] trivial (by kernel_rfl) rfl fun gg1 => ?_
  refine wr 1 [] 6 7 [] [(7, (.bool (op == 1)))] trivial (by kernel_rfl) rfl fun gg2 => ?_
  refine wk_if 1 2 (v := (op == 1)) rfl rfl rfl rfl (fun c3b => ?_) (fun c3b => ?_)
  · have c3 := c3b
    try simp only [BS] at c3
    refine wr 1 [] 4 4 [] [(4, (.bool true))] trivial (by kernel_rfl) rfl fun gg4 => ?_
    refine wk_ret ⟨.inr rfl, _, rfl, true, rfl, rfl, (by rw [Bool.eq_iff_iff]; unfold viV; (repeat' split) <;> simp_all <;> omega)⟩
  · have c3 := c3b
    try simp only [BS] at c3
    refine wr 3 [(1, .o (.int .i64 (mxV op)))] 8 9 [5] [(5, (.int .i64 (mxV op)))] (vA (maxImm_c_q ex op H) trivial) (by kernel_rfl) rfl fun gg5 => ?_
    refine wr 1 [] 10 11 [] [(11, (.bool (decide (mxV op < 0))))] trivial (by kernel_rfl) rfl fun gg6 => ?_
    refine wk_if 1 2 (v := (decide (mxV op < 0))) rfl rfl rfl rfl (fun c7b => ?_) (fun c7b => ?_)
    · have c7 := c7b
      try simp only [BS] at c7
      refine wr 1 [] 12 13 [4] [(4, (.bool (n == 0)))] trivial (by kernel_rfl) rfl fun gg8 => ?_
      refine wk_ret ⟨.inr rfl, _, rfl, (n == 0), rfl, rfl, (by rw [Bool.eq_iff_iff]; unfold viV; (repeat' split) <;> simp_all <;> omega)⟩
    · have c7 := c7b
      try simp only [BS] at c7
      refine wr 1 [] 14 28 [4] [(4, (.bool (((decide ((0 : Int) ≤ n)) && (decide (n ≤ mxV op))) && ((op != 27) || (decide ((0 : Int) < n))))))] trivial (by kernel_rfl) rfl fun gg9 => ?_
      refine wk_ret ⟨.inr rfl, _, rfl, (((decide ((0 : Int) ≤ n)) && (decide (n ≤ mxV op))) && ((op != 27) || (decide ((0 : Int) < n)))), rfl, rfl, (by rw [Bool.eq_iff_iff]; unfold viV; (repeat' split) <;> simp_all <;> omega)⟩

theorem validImm_c_q (ex : FuncId) (op : Int) (n : Int) (H : Heap) : C Try.prog 0 (KX ex) 78 [(.int .i64 op), (.int .i64 n)] H fun v H' => v = (.bool (viV op n)) ∧ H' = H :=
  cq (validImm_c ex op n H) (by rintro _ _ ⟨_, rfl, rfl, rfl⟩; exact ⟨rfl, rfl⟩)

theorem sortIf_c (ex : FuncId) (ok : Bool) (n : Int) (H : Heap) : C Try.prog 0 (KX ex) 79 [(.bool ok), (.int .i64 n)] H fun v H' => ∃ (r : Int), H' = H ∧ v = .int .i64 r ∧ r = if ok = true then n else 0 := by
  refine c_enter Try.func79 rfl rfl ?_
  refine wk_foc 1 rfl ?_
  refine wr 3 [] 4 4 [] [(4, (.int .i64 0))] trivial (by kernel_rfl) rfl fun gg1 => ?_
  refine wr 1 [] 5 5 [] [(5, (.bool ok))] trivial (by kernel_rfl) rfl fun gg2 => ?_
  refine wk_if 1 2 (v := ok) rfl rfl rfl rfl (fun c3b => ?_) (fun c3b => ?_)
  · have c3 := c3b
    try simp only [BS] at c3
    refine wr 1 [] 4 4 [6] [(4, (.int .i64 n))] trivial (by kernel_rfl) rfl fun gg4 => ?_
    refine wk_ret ⟨.inr rfl, _, rfl, n, rfl, rfl, (by simp_all)⟩
  · have c3 := c3b
    try simp only [BS] at c3
    refine wr 1 [] 4 4 [] [(4, (.int .i64 0))] trivial (by kernel_rfl) rfl fun gg5 => ?_
    refine wk_ret ⟨.inr rfl, _, rfl, 0, rfl, rfl, (by simp_all)⟩

theorem sortIf_c_q (ex : FuncId) (ok : Bool) (n : Int) (H : Heap) : C Try.prog 0 (KX ex) 79 [(.bool ok), (.int .i64 n)] H fun v H' => v = (.int .i64 (if ok = true then n else 0)) ∧ H' = H :=
  cq (sortIf_c ex ok n H) (by rintro _ _ ⟨_, rfl, rfl, rfl⟩; exact ⟨rfl, rfl⟩)

theorem allValues_c (ex : FuncId) {a_k : Option Addr} {k_k : Nat} (k : List Int) {F : Fz} {H : Heap} {R : List Fp} (hs : HS (.of H []) F H [] R) (hk : SR F (.slice a_k k.length k_k) k) (hb : k.length ≤ 1073741824) : C Try.prog 0 (KX ex) 80 [(.slice a_k k.length k_k)] H fun v H' => ∃ (r : Bool), H' = H ∧ v = .bool r ∧ (k.length = 0 → r = true) := by
  refine c_enter Try.func80 rfl rfl ?_
  refine wk_foc 1 rfl ?_
  refine wr 3 [] 2 2 [] [(2, (.bool false))] trivial (by kernel_rfl) rfl fun gg1 => ?_
  refine wr 2 [] 1 0 [3] [(3, (.int .i64 0))] trivial (by kernel_rfl) rfl fun gg2 => ?_
  refine wk_loop_inv (fun (mm : Nat) f H' => ∃ (i : Nat), H' = H ∧ agrees f [(0, (.slice a_k k.length k_k)), (3, (.int .i64 (i : Int)))] ∧ mm = k.length - i ∧ (i ≤ k.length)) _ ⟨0, rfl, (agC rfl (agC rfl agN)), rfl, (by first | assumption | omega | (simp at *; omega))⟩ ?_
  rintro mm3 f3 H ⟨i, rfl, hf3, rfl, h1⟩ ih3
  refine wk_canon _ hf3 (fun gg3 => ?_)
  clear hf3
  refine wk_foc 2 rfl ?_
  refine wr 1 [] 4 7 [] [(7, (.bool (decide ((i : Int) < (k.length : Int)))))] trivial (by kernel_rfl) rfl fun gg4 => ?_
  refine wk_if 4 5 (v := (decide ((i : Int) < (k.length : Int)))) rfl rfl rfl rfl (fun c5b => ?_) (fun c5b => ?_)
  · have c5 := c5b
    try simp only [BS] at c5
    obtain ⟨cf6, hv6⟩ := Sv.view (SR.sv hk hs)
    have g7 := fI (hv6 i)
    refine wr 1 [(3, .o (.int .i64 (k.getD i 0)))] 10 14 [] [(14, (.bool ((k.getD i 0) != 1)))] (vA (Sv.ix (j := (i : Int)) (SR.sv hk hs) (by omega) (by omega)) (vA (ql 3 0 (vI (hv6 i) (by omega)) rfl rfl) trivial)) (by kernel_rfl) rfl fun gg8 => ?_
    refine wk_if 1 2 (v := ((k.getD i 0) != 1)) rfl rfl rfl rfl (fun c9b => ?_) (fun c9b => ?_)
    · have c9 := c9b
      try simp only [BS] at c9
      refine wr 1 [] 2 2 [] [(2, (.bool false))] trivial (by kernel_rfl) rfl fun gg10 => ?_
      refine wk_ret ⟨.inr rfl, _, rfl, false, rfl, rfl, (by first | (intro; rfl) | (intro; omega))⟩
    · have c9 := c9b
      try simp only [BS] at c9
      refine wr 1 [] 8 9 [3] [(3, (.int .i64 ((i : Int) + 1)))] (vA (vi (n := (i : Int) + 1) (by omega)) trivial) (by kernel_rfl) rfl fun gg11 => ?_
      refine ih3 _ _ _ ?_ ⟨i + 1, rfl, (agC rfl (agC rfl agN)), rfl, (by first | assumption | omega | (simp at *; omega))⟩
      omega
  · have c5 := c5b
    try simp only [BS] at c5
    refine wr 1 [] 2 2 [] [(2, (.bool true))] trivial (by kernel_rfl) rfl fun gg12 => ?_
    refine wk_ret ⟨.inr rfl, _, rfl, true, rfl, rfl, (by first | (intro; rfl) | (intro; omega))⟩

theorem sort_c (ex : FuncId) (op : Int) (H : Heap) : C Try.prog 0 (KX ex) 52 [(.int .i64 op)] H fun v H' => ∃ (r : Int), H' = H ∧ v = .int .i64 r ∧ r = sortV op := by
  refine c_enter Try.func52 rfl rfl ?_
  refine wk_foc 1 rfl ?_
  refine wr 3 [] 2 2 [] [(2, (.int .i64 0))] trivial (by kernel_rfl) rfl fun gg1 => ?_
  refine wr 1 [] 3 12 [] [(12, (.bool (((op == 27) || (op == 28)) || (op == 29))))] trivial (by kernel_rfl) rfl fun gg2 => ?_
  refine wk_if 1 2 (v := (((op == 27) || (op == 28)) || (op == 29))) rfl rfl rfl rfl (fun c3b => ?_) (fun c3b => ?_)
  · have c3 := c3b
    try simp only [BS] at c3
    refine wr 1 [] 2 2 [] [(2, (.int .i64 2))] trivial (by kernel_rfl) rfl fun gg4 => ?_
    refine wk_ret ⟨.inr rfl, _, rfl, 2, rfl, rfl, (by unfold sortV; split <;> omega)⟩
  · have c3 := c3b
    try simp only [BS] at c3
    refine wr 1 [] 2 2 [] [(2, (.int .i64 1))] trivial (by kernel_rfl) rfl fun gg5 => ?_
    refine wk_ret ⟨.inr rfl, _, rfl, 1, rfl, rfl, (by unfold sortV; split <;> omega)⟩

theorem sort_c_q (ex : FuncId) (op : Int) (H : Heap) : C Try.prog 0 (KX ex) 52 [(.int .i64 op)] H fun v H' => v = (.int .i64 (sortV op)) ∧ H' = H :=
  cq (sort_c ex op H) (by rintro _ _ ⟨_, rfl, rfl, rfl⟩; exact ⟨rfl, rfl⟩)

theorem opSort_c (ex : FuncId) (op : Int) (k : Int) (H : Heap) : C Try.prog 0 (KX ex) 35 [(.int .i64 op), (.int .i64 k)] H fun v H' => ∃ (r : Int), H' = H ∧ v = .int .i64 r ∧ r = srV op k := by
  refine c_enter Try.func35 rfl rfl ?_
  refine wk_foc 1 rfl ?_
  refine wr 3 [] 4 4 [] [(4, (.int .i64 0))] trivial (by kernel_rfl) rfl fun gg1 => ?_
  refine wr 1 [(4, .o (.int .i64 (sortV op)))] 5 19 [] [(19, (.bool ((k == 0) && (((sortV op == 2) || (op == 23)) || (op == 24)))))] (vA (fun (g1 : (k == 0) = true) => (sort_c_q ex op H)) trivial) (by kernel_rfl) rfl fun gg2 => ?_
  refine wk_if 1 2 (v := ((k == 0) && (((sortV op == 2) || (op == 23)) || (op == 24)))) rfl rfl rfl rfl (fun c3b => ?_) (fun c3b => ?_)
  · have c3 := c3b
    try simp only [BS] at c3
    refine wr 1 [] 4 4 [] [(4, (.int .i64 2))] trivial (by kernel_rfl) rfl fun gg4 => ?_
    refine wk_ret ⟨.inr rfl, _, rfl, 2, rfl, rfl, (by unfold srV sortV at *; (repeat' split at *) <;> omega)⟩
  · have c3 := c3b
    try simp only [BS] at c3
    refine wr 1 [] 4 4 [] [(4, (.int .i64 1))] trivial (by kernel_rfl) rfl fun gg5 => ?_
    refine wk_ret ⟨.inr rfl, _, rfl, 1, rfl, rfl, (by unfold srV sortV at *; (repeat' split at *) <;> omega)⟩

theorem opSort_c_q (ex : FuncId) (op : Int) (k : Int) (H : Heap) : C Try.prog 0 (KX ex) 35 [(.int .i64 op), (.int .i64 k)] H fun v H' => v = (.int .i64 (srV op k)) ∧ H' = H :=
  cq (opSort_c ex op k H) (by rintro _ _ ⟨_, rfl, rfl, rfl⟩; exact ⟨rfl, rfl⟩)

theorem next_c (ex : FuncId) {ax_0 : Option Addr} {kx_0 : Nat} {b_x : Nat} (x : RdrT) {F : Fz} {H : Heap} {R : List Fp} (hs : HS (.of H [b_x]) F H [[(b_x, .cells [(.slice ax_0 x.l.length kx_0), (.int .i64 x.loops)] none false)]] R) (hx_0 : SR F (.slice ax_0 x.l.length kx_0) x.l) (hx_1 : in64 x.loops) : C Try.prog 0 (KX ex) 36 [(.pointer (some ⟨b_x, 0, none⟩))] H fun v H' => ∃ (r : Int) (x' : RdrT) (am_0 : Option Addr) (km_0 : Nat) (F' : Fz), Fz.le F F' ∧ HS (.of H [b_x]) F' H' [[(b_x, .cells [(.slice am_0 x'.l.length km_0), (.int .i64 x'.loops)] none false)]] R ∧ v = .int .i64 r ∧ in64 x'.loops ∧ SR F' (.slice am_0 x'.l.length km_0) x'.l ∧ x' = RdrT.mk (x.l.drop 1) x.loops ∧ (in64 r) := by
  refine c_enter Try.func36 rfl rfl ?_
  refine wk_foc 1 rfl ?_
  refine wr 3 [] 2 2 [] [(2, (.int .i64 0))] trivial (by kernel_rfl) rfl fun gg1 => ?_
  refine wr 1 [(3, .o (.slice ax_0 x.l.length kx_0))] 4 9 [] [(9, (.bool ((x.l.length : Int) == 0)))] (vA (ql 22 0 (HS.hc hs (i := 0) rfl) rfl rfl) trivial) (by kernel_rfl) rfl fun gg2 => ?_
  refine wk_if 1 2 (v := ((x.l.length : Int) == 0)) rfl rfl rfl rfl (fun c3b => ?_) (fun c3b => ?_)
  · have c3 := c3b
    try simp only [BS] at c3
    refine wr 1 [] 2 2 [] [(2, (.int .i64 0))] trivial (by kernel_rfl) rfl fun gg4 => ?_
    refine wk_ret ⟨.inr rfl, _, rfl, 0, (⟨x.l, x.loops⟩ : RdrT), ax_0, kx_0, _, (Fz.le_refl _), (HS.first hs), rfl, (by omega), hx_0, (by first | rfl | (rw [List.eq_nil_of_length_eq_zero (l := x.l) (by omega)]; rfl)), (by omega)⟩
  · have c3 := c3b
    try simp only [BS] at c3
    obtain ⟨cf5, hv5⟩ := Sv.view (SR.sv hx_0 hs)
    have g6 := fI (hv5 0)
    refine wr 2 [(3, .o (.slice ax_0 x.l.length kx_0)), (5, .o (.int .i64 (x.l.getD 0 0)))] 10 15 [3] [(3, (.int .i64 (x.l.getD 0 0)))] (vA (ql 22 0 (HS.hc hs (i := 0) rfl) rfl rfl) (vA (Sv.ix (j := 0) (SR.sv hx_0 hs) (by decide) (by omega)) (vA (ql 3 0 (vI (hv5 0) (by omega)) rfl rfl) trivial))) (by kernel_rfl) rfl fun gg7 => ?_
    refine wk_region ?_
    refine wro 5 0 [(4, .o (.slice ax_0 x.l.length kx_0))] 16 20 [] [(16, (.pointer (some ⟨b_x, 0, none⟩))), (20, (.slice ax_0 x.l.length kx_0))] (vA (ql 22 0 (HS.hc hs (i := 0) rfl) rfl rfl) trivial) (by kernel_rfl) rfl fun gg8 => ?_
    refine wo_rs (rs_cutd (α := Int) (i := 1) hx_0 hs rfl rfl rfl (optN (by decide)) (by omega)) rfl rfl ?_
    rintro _ _ _ ⟨a9, k9, rfl, hH9, hq9⟩
    simp only at hH9; replace hH9 := hH9.symm; subst hH9
    refine wro 2 6 [] 22 23 [] [(23, (.pointer (some ⟨b_x, 0, none⟩)))] trivial (by kernel_rfl) rfl fun gg10 => ?_
    refine wo_rk (rs_rec (q := 0) hs rfl rfl rfl rfl rfl rfl rfl rfl rfl) rfl ?_
    rintro _ H11 _ ⟨hs11, _⟩
    have hs11 : HS (Base.of H [b_x]) F H11 [[(b_x, .cells [(.slice a9 (x.l.drop 1).length k9), (.int .i64 x.loops)] none false)]] R := hs11
    refine wo_end 2 rfl ?_
    refine wr 1 [] 2 2 [24] [(2, (.int .i64 (x.l.getD 0 0)))] trivial (by kernel_rfl) rfl fun gg12 => ?_
    refine wk_ret ⟨.inr rfl, _, rfl, (x.l.getD 0 0), (⟨x.l.drop 1, x.loops⟩ : RdrT), a9, k9, _, (Fz.le_refl _), (HS.first hs11), rfl, (by omega), hq9, (by first | rfl | (rw [List.eq_nil_of_length_eq_zero (l := x.l) (by omega)]; rfl)), (by omega)⟩

theorem word_c (ex : FuncId) (n : Int) (raw : Int) {F : Fz} {H : Heap} {R : List Fp} (hs : HS (.of H []) F H [] R) (hn : in64 n) (hraw : in64 raw) : C Try.prog 0 (KX ex) 32 [(.int .i64 n), (.int .i64 raw)] H fun v H' => ∃ (r : Int) (F' : Fz), Fz.le F F' ∧ HS (.of H []) F' H' [] R ∧ v = .int .i64 r ∧ (in64 r) := by
  refine c_enter Try.func32 rfl rfl ?_
  refine wk_foc 1 rfl ?_
  refine wr 2 [] 4 4 [] [(4, (.int .i64 0))] trivial (by kernel_rfl) rfl fun gg1 => ?_
  refine wk_region ?_
  refine wo_rs (rs_lit (α := Int) (ps := [(0, (.int .i64 0)), (1, (.int .i64 1)), (2, (.int .i64 (-1))), (3, (.int .i64 2)), (4, (.int .i64 (-9223372036854775808))), (5, (.int .i64 9223372036854775807)), (6, (.int .i64 4294967296)), (7, (.int .i64 (-2147483648))), (8, (.int .i64 63)), (9, (.int .i64 64))]) (cells := [(.int .i64 0), (.int .i64 1), (.int .i64 (-1)), (.int .i64 2), (.int .i64 (-9223372036854775808)), (.int .i64 9223372036854775807), (.int .i64 4294967296), (.int .i64 (-2147483648)), (.int .i64 63), (.int .i64 64)]) ([0, 1, (-1), 2, (-9223372036854775808), 9223372036854775807, 4294967296, (-2147483648), 63, 64] : List Int) hs rfl rfl rfl (by kernel_rfl) ⟨[(.int .i64 0)], [(.int .i64 1), (.int .i64 (-1)), (.int .i64 2), (.int .i64 (-9223372036854775808)), (.int .i64 9223372036854775807), (.int .i64 4294967296), (.int .i64 (-2147483648)), (.int .i64 63), (.int .i64 64)], rfl, ⟨rfl, by omega⟩, ⟨[(.int .i64 1)], [(.int .i64 (-1)), (.int .i64 2), (.int .i64 (-9223372036854775808)), (.int .i64 9223372036854775807), (.int .i64 4294967296), (.int .i64 (-2147483648)), (.int .i64 63), (.int .i64 64)], rfl, ⟨rfl, by omega⟩, ⟨[(.int .i64 (-1))], [(.int .i64 2), (.int .i64 (-9223372036854775808)), (.int .i64 9223372036854775807), (.int .i64 4294967296), (.int .i64 (-2147483648)), (.int .i64 63), (.int .i64 64)], rfl, ⟨rfl, by omega⟩, ⟨[(.int .i64 2)], [(.int .i64 (-9223372036854775808)), (.int .i64 9223372036854775807), (.int .i64 4294967296), (.int .i64 (-2147483648)), (.int .i64 63), (.int .i64 64)], rfl, ⟨rfl, by omega⟩, ⟨[(.int .i64 (-9223372036854775808))], [(.int .i64 9223372036854775807), (.int .i64 4294967296), (.int .i64 (-2147483648)), (.int .i64 63), (.int .i64 64)], rfl, ⟨rfl, by omega⟩, ⟨[(.int .i64 9223372036854775807)], [(.int .i64 4294967296), (.int .i64 (-2147483648)), (.int .i64 63), (.int .i64 64)], rfl, ⟨rfl, by omega⟩, ⟨[(.int .i64 4294967296)], [(.int .i64 (-2147483648)), (.int .i64 63), (.int .i64 64)], rfl, ⟨rfl, by omega⟩, ⟨[(.int .i64 (-2147483648))], [(.int .i64 63), (.int .i64 64)], rfl, ⟨rfl, by omega⟩, ⟨[(.int .i64 63)], [(.int .i64 64)], rfl, ⟨rfl, by omega⟩, ⟨[(.int .i64 64)], [], rfl, ⟨rfl, by omega⟩, rfl⟩⟩⟩⟩⟩⟩⟩⟩⟩⟩ rfl) rfl rfl ?_
  rintro _ H3 p2 ⟨a2, k2, rfl, ho2, hs3, _⟩
  have hs3 : HS (Base.of H []) F H3 [p2] R := hs3
  refine wa (.slice a2 ([0, 1, (-1), 2, (-9223372036854775808), 9223372036854775807, 4294967296, (-2147483648), 63, 64] : List Int).length k2) rfl rfl rfl ?_
  refine wo_end 2 rfl ?_
  have fq4 := pick_imp n (24 : Int)
  refine wr 4 [(1, .o (.int .i64 (pickV n (24 : Int))))] 8 9 [6] [(6, (.int .i64 (pickV n (24 : Int))))] (vA (k1.pick_c_q ex n (24) H3 (by omega)) trivial) (by kernel_rfl) rfl fun gg5 => ?_
  refine wr 1 [] 10 12 [] [(10, (.bool (decide (pickV n (24 : Int) < 10))))] trivial (by kernel_rfl) rfl fun gg6 => ?_
  refine wk_if 1 1 (v := (decide (pickV n (24 : Int) < 10))) rfl rfl rfl rfl (fun c7b => ?_) (fun c7b => ?_)
  · have c7 := c7b
    try simp only [BS] at c7
    obtain ⟨cf8, hv8⟩ := Sv.view (OS.sv ho2 hs3 (i := 0) rfl)
    have g9 := fI (hv8 ((pickV n (24 : Int)).toNat))
    refine wr 1 [(3, .o (.int .i64 (([0, 1, (-1), 2, (-9223372036854775808), 9223372036854775807, 4294967296, (-2147483648), 63, 64] : List Int).getD ((pickV n (24 : Int)).toNat) 0)))] 13 16 [4] [(4, (.int .i64 (([0, 1, (-1), 2, (-9223372036854775808), 9223372036854775807, 4294967296, (-2147483648), 63, 64] : List Int).getD ((pickV n (24 : Int)).toNat) 0)))] (vA (Sv.ix (j := pickV n (24 : Int)) (OS.sv ho2 hs3 (i := 0) rfl) (by omega) (show pickV n (24 : Int) < (10 : Int) from by omega)) (vA (ql 2 0 (vI (hv8 ((pickV n (24 : Int)).toNat)) (show (pickV n (24 : Int)).toNat < 10 from by omega)) rfl rfl) trivial)) (by kernel_rfl) rfl fun gg10 => ?_
    refine wk_ret ⟨.inr rfl, _, rfl, (([0, 1, (-1), 2, (-9223372036854775808), 9223372036854775807, 4294967296, (-2147483648), 63, 64] : List Int).getD ((pickV n (24 : Int)).toNat) 0), _, (Fz.le_refl _), (HS.forget hs3), rfl, (by omega)⟩
  · have c7 := c7b
    try simp only [BS] at c7
    refine wr 1 [] 17 19 [] [(17, (.bool (decide (pickV n (24 : Int) < 22))))] trivial (by kernel_rfl) rfl fun gg11 => ?_
    refine wk_if 1 3 (v := (decide (pickV n (24 : Int) < 22))) rfl rfl rfl rfl (fun c12b => ?_) (fun c12b => ?_)
    · have c12 := c12b
      try simp only [BS] at c12
      have fq13 := pick_imp (Int.tdiv n 24) (17 : Int)
      refine wr 1 [(2, .o (.int .i64 (pickV (Int.tdiv n 24) (17 : Int))))] 20 23 [4] [(4, (.int .i64 ((pickV (Int.tdiv n 24) (17 : Int)) - 6)))] (vA (vA (show (24 : Int) ≠ 0 from by decide) (vq (a := n) (b := 24) (by omega) (by decide))) (vA (k1.pick_c_q ex (Int.tdiv n 24) (17) H3 (by omega)) (vA (vi (n := (pickV (Int.tdiv n 24) (17 : Int)) - 6) (by omega)) trivial))) (by kernel_rfl) rfl fun gg14 => ?_
      refine wk_ret ⟨.inr rfl, _, rfl, (pickV (Int.tdiv n 24) (17 : Int)) - 6, _, (Fz.le_refl _), (HS.forget hs3), rfl, (by omega)⟩
    · have c12 := c12b
      try simp only [BS] at c12
      refine wr 1 [] 4 4 [24] [(4, (.int .i64 raw))] trivial (by kernel_rfl) rfl fun gg15 => ?_
      refine wk_ret ⟨.inr rfl, _, rfl, raw, _, (Fz.le_refl _), (HS.forget hs3), rfl, (by omega)⟩

theorem sameNode_c (ex : FuncId) {aa_2 : Option Addr} {ka_2 : Nat} (a : NodeT) {ab_2 : Option Addr} {kb_2 : Nat} (b : NodeT) {F : Fz} {H : Heap} {R : List Fp} (hs : HS (.of H []) F H [] R) (ha_0 : in64 a.op) (ha_1 : in64 a.imm) (ha_2 : SR F (.slice aa_2 a.kids.length ka_2) a.kids) (hb_0 : in64 b.op) (hb_1 : in64 b.imm) (hb_2 : SR F (.slice ab_2 b.kids.length kb_2) b.kids) (hb : a.kids.length ≤ 1073741824) : C Try.prog 0 (KX ex) 53 [(.agg ⟨[(.int .i64 a.op), (.int .i64 a.imm), (.slice aa_2 a.kids.length ka_2)]⟩), (.agg ⟨[(.int .i64 b.op), (.int .i64 b.imm), (.slice ab_2 b.kids.length kb_2)]⟩)] H fun v H' => ∃ (r : Bool) (F' : Fz), Fz.le F F' ∧ HS (.of H []) F' H' [] R ∧ v = .bool r := by
  refine c_enter Try.func53 rfl rfl ?_
  refine wk_foc 1 rfl ?_
  refine wk_region ?_
  refine wo_rs (rs_box hs rfl rfl) rfl rfl ?_
  rintro _ H2 _ ⟨b1, rfl, hs2, _⟩
  have hs2 : HS (Base.of H []) F H2 [[(b1, .cells [(.int .i64 a.op), (.int .i64 a.imm), (.slice aa_2 a.kids.length ka_2)] none false)]] R := hs2
  refine wo_rs (rs_box hs2 rfl rfl) rfl rfl ?_
  rintro _ H4 _ ⟨b3, rfl, hs4, _⟩
  have hs4 : HS (Base.of H []) F H4 [[(b1, .cells [(.int .i64 a.op), (.int .i64 a.imm), (.slice aa_2 a.kids.length ka_2)] none false)], [(b3, .cells [(.int .i64 b.op), (.int .i64 b.imm), (.slice ab_2 b.kids.length kb_2)] none false)]] R := hs4
  refine wa (.bool false) rfl rfl rfl ?_
  refine wo_end 3 rfl ?_
  refine wr 1 [(1, .o (.int .i64 a.op)), (3, .o (.int .i64 b.op)), (7, .o (.int .i64 a.imm)), (9, .o (.int .i64 b.imm)), (14, .o (.slice aa_2 a.kids.length ka_2)), (17, .o (.slice ab_2 b.kids.length kb_2))] 6 26 [] [(26, (.bool (((a.op != b.op) || (a.imm != b.imm)) || ((a.kids.length : Int) != (b.kids.length : Int)))))] (vA (ql 3 0 (HS.hc hs4 (i := 0) rfl) rfl rfl) (vA (ql 3 0 (HS.hc hs4 (i := 1) rfl) rfl rfl) (vA (fun (g1 : (a.op != b.op) = false) => (ql 2 1 (HS.hc hs4 (i := 0) rfl) rfl rfl)) (vA (fun (g1 : (a.op != b.op) = false) => (ql 2 1 (HS.hc hs4 (i := 1) rfl) rfl rfl)) (vA (fun (g1 : ((a.op != b.op) || (a.imm != b.imm)) = false) => (ql 22 2 (HS.hc hs4 (i := 0) rfl) rfl rfl)) (vA (fun (g1 : ((a.op != b.op) || (a.imm != b.imm)) = false) => (ql 22 2 (HS.hc hs4 (i := 1) rfl) rfl rfl)) trivial)))))) (by kernel_rfl) rfl fun gg5 => ?_
  refine wk_if 1 3 (v := (((a.op != b.op) || (a.imm != b.imm)) || ((a.kids.length : Int) != (b.kids.length : Int)))) rfl rfl rfl rfl (fun c6b => ?_) (fun c6b => ?_)
  · have c6 := c6b
    try simp only [BS] at c6
    refine wr 1 [] 4 4 [] [(4, (.bool false))] trivial (by kernel_rfl) rfl fun gg7 => ?_
    refine wk_ret ⟨.inr rfl, _, rfl, false, _, (Fz.le_refl _), (HS.forget hs4), rfl⟩
  · have c6 := c6b
    try simp only [BS] at c6
    have c0 := c6
    refine wr 2 [] 1 0 [5] [(5, (.int .i64 0))] trivial (by kernel_rfl) rfl fun gg8 => ?_
    refine wk_loop_inv (fun (mm : Nat) f H' => ∃ (i : Nat) (F' : Fz), Fz.le F F' ∧ HS (Base.of H []) F' H' [[(b1, .cells [(.int .i64 a.op), (.int .i64 a.imm), (.slice aa_2 a.kids.length ka_2)] none false)], [(b3, .cells [(.int .i64 b.op), (.int .i64 b.imm), (.slice ab_2 b.kids.length kb_2)] none false)]] R ∧ agrees f [(2, (.pointer (some ⟨b1, 0, none⟩))), (3, (.pointer (some ⟨b3, 0, none⟩))), (5, (.int .i64 (i : Int)))] ∧ mm = a.kids.length - i ∧ (i ≤ a.kids.length)) _ ⟨0, _, (Fz.le_refl _), hs4, (agC rfl (agC rfl (agC rfl agN))), rfl, (by first | assumption | omega | (simp at *; omega))⟩ ?_
    rintro mm9 f9 H9 ⟨i, F9, hF9, hs9, hf9, rfl, h1⟩ ih9
    refine wk_canon _ hf9 (fun gg9 => ?_)
    clear hf9
    replace ha_2 := ha_2.mono hF9
    replace hb_2 := hb_2.mono hF9
    refine wk_foc 2 rfl ?_
    refine wr 1 [(2, .o (.slice aa_2 a.kids.length ka_2))] 27 31 [] [(31, (.bool (decide ((i : Int) < (a.kids.length : Int)))))] (vA (ql 22 2 (HS.hc hs9 (i := 0) rfl) rfl rfl) trivial) (by kernel_rfl) rfl fun gg10 => ?_
    refine wk_if 4 5 (v := (decide ((i : Int) < (a.kids.length : Int)))) rfl rfl rfl rfl (fun c11b => ?_) (fun c11b => ?_)
    · have c11 := c11b
      try simp only [BS] at c11
      obtain ⟨cf12, hv12⟩ := Sv.view (SR.sv ha_2 hs9)
      have g13 := fI (hv12 i)
      obtain ⟨cf14, hv14⟩ := Sv.view (SR.sv hb_2 hs9)
      have g15 := fI (hv14 i)
      refine wrD 1 [(1, .o (.slice aa_2 a.kids.length ka_2)), (4, .o (.int .i64 (a.kids.getD i 0))), (6, .o (.slice ab_2 b.kids.length kb_2)), (9, .o (.int .i64 (b.kids.getD i 0)))] 34 44 [] [(44, (.bool ((a.kids.getD i 0) != (b.kids.getD i 0))))] (vA (ql 22 2 (hc0 (HS.hc hs9 (i := 0) rfl)) rfl rfl) (vA (Sv.ix (j := (i : Int)) (SR.sv ha_2 hs9) (by omega) (by omega)) (vA (ql 3 0 (hc0 (vI (hv12 i) (by omega))) rfl rfl) (vA (ql 22 2 (hc0 (HS.hc hs9 (i := 1) rfl)) rfl rfl) (vA (Sv.ix (j := (i : Int)) (SR.sv hb_2 hs9) (by omega) (by omega)) (vA (ql 3 0 (hc0 (vI (hv14 i) (by omega))) rfl rfl) trivial)))))) rfl (by kernel_rfl) rfl fun gg16 => ?_
      refine wk_if 1 2 (v := ((a.kids.getD i 0) != (b.kids.getD i 0))) rfl rfl rfl rfl (fun c17b => ?_) (fun c17b => ?_)
      · have c17 := c17b
        try simp only [BS] at c17
        refine wr 1 [] 4 4 [] [(4, (.bool false))] trivial (by kernel_rfl) rfl fun gg18 => ?_
        refine wk_ret ⟨.inr rfl, _, rfl, false, _, (hF9), (HS.forget hs9), rfl⟩
      · have c17 := c17b
        try simp only [BS] at c17
        refine wr 1 [] 32 33 [5] [(5, (.int .i64 ((i : Int) + 1)))] (vA (vi (n := (i : Int) + 1) (by omega)) trivial) (by kernel_rfl) rfl fun gg19 => ?_
        refine ih9 _ _ _ ?_ ⟨i + 1, _, (hF9), hs9, (agC rfl (agC rfl (agC rfl agN))), rfl, (by first | assumption | omega | (simp at *; omega))⟩
        omega
    · have c11 := c11b
      try simp only [BS] at c11
      refine wr 1 [] 4 4 [] [(4, (.bool true))] trivial (by kernel_rfl) rfl fun gg20 => ?_
      refine wk_ret ⟨.inr rfl, _, rfl, true, _, (hF9), (HS.forget hs9), rfl⟩

theorem contains_c (ex : FuncId) {a_l : Option Addr} {k_l : Nat} (l : List NodeT) {an_2 : Option Addr} {kn_2 : Nat} (n : NodeT) {F : Fz} {H : Heap} {R : List Fp} (hs : HS (.of H []) F H [] R) (hl : SR F (.slice a_l l.length k_l) l) (hn_0 : in64 n.op) (hn_1 : in64 n.imm) (hn_2 : SR F (.slice an_2 n.kids.length kn_2) n.kids) (hb : l.length ≤ 1073741824 ∧ ∀ i, (l.getD i default).kids.length ≤ 1000) : C Try.prog 0 (KX ex) 37 [(.slice a_l l.length k_l), (.agg ⟨[(.int .i64 n.op), (.int .i64 n.imm), (.slice an_2 n.kids.length kn_2)]⟩)] H fun v H' => ∃ (r : Bool) (F' : Fz), Fz.le F F' ∧ HS (.of H []) F' H' [] R ∧ v = .bool r := by
  refine c_enter Try.func37 rfl rfl ?_
  refine wk_foc 1 rfl ?_
  refine wk_region ?_
  refine wo_rs (rs_box hs rfl rfl) rfl rfl ?_
  rintro _ H2 _ ⟨b1, rfl, hs2, _⟩
  have hs2 : HS (Base.of H []) F H2 [[(b1, .cells [(.int .i64 n.op), (.int .i64 n.imm), (.slice an_2 n.kids.length kn_2)] none false)]] R := hs2
  refine wa (.bool false) rfl rfl rfl ?_
  refine wo_end 3 rfl ?_
  refine wr 2 [] 1 0 [5] [(5, (.int .i64 0))] trivial (by kernel_rfl) rfl fun gg3 => ?_
  refine wk_loop_inv (fun (mm : Nat) f H' => ∃ (i : Nat) (F' : Fz), Fz.le F F' ∧ HS (Base.of H []) F' H' [[(b1, .cells [(.int .i64 n.op), (.int .i64 n.imm), (.slice an_2 n.kids.length kn_2)] none false)]] R ∧ agrees f [(0, (.slice a_l l.length k_l)), (3, (.pointer (some ⟨b1, 0, none⟩))), (5, (.int .i64 (i : Int)))] ∧ mm = l.length - i ∧ (i ≤ l.length)) _ ⟨0, _, (Fz.le_refl _), hs2, (agC rfl (agC rfl (agC rfl agN))), rfl, (by first | assumption | omega | (simp at *; omega))⟩ ?_
  rintro mm4 f4 H4 ⟨i, F4, hF4, hs4, hf4, rfl, h1⟩ ih4
  refine wk_canon _ hf4 (fun gg4 => ?_)
  clear hf4
  replace hl := hl.mono hF4
  replace hn_2 := hn_2.mono hF4
  have hbk := hb.2 i
  refine wk_foc 2 rfl ?_
  refine wr 1 [] 6 9 [] [(9, (.bool (decide ((i : Int) < (l.length : Int)))))] trivial (by kernel_rfl) rfl fun gg5 => ?_
  refine wk_if 4 5 (v := (decide ((i : Int) < (l.length : Int)))) rfl rfl rfl rfl (fun c6b => ?_) (fun c6b => ?_)
  · have c6 := c6b
    try simp only [BS] at c6
    refine wf_region rfl ?_
    refine fm (.slice a_l l.length k_l) rfl rfl rfl ?_
    refine fm (.int .i64 (i : Int)) rfl rfl rfl ?_
    refine wf_pure (v := (.pointer (some ⟨sB (.slice a_l l.length k_l), sO (.slice a_l l.length k_l) + i * Rp.sz NodeT, none⟩))) (id := .v) (ap_idxV (α := NodeT) (j := (i : Int)) rfl rfl rfl rfl (SR.sv hl hs4.log0) (by omega) (by omega)) rfl rfl (did_v rfl) (okD_v _) ?_
    obtain ⟨cs7, hr7, hc7⟩ := Sv.at (SR.sv hl hs4.log0) (getD_at (x := default) (show i < l.length from by omega))
    obtain ⟨a8_2, k8_2, rfl, g8_0, g8_1, s8_2⟩ := hr7
    refine wf_pure (v := (.agg ⟨[(.int .i64 ((l.getD i default).op)), (.int .i64 ((l.getD i default).imm)), (.slice a8_2 ((l.getD i default).kids).length k8_2)]⟩)) (id := .l (sB (.slice a_l l.length k_l))) (ap_ldN (i := 0) rfl rfl rfl hc7 rfl rfl rfl) rfl rfl (did_l rfl) (⟨.inl rfl, ⟨.inl rfl, ⟨.inl rfl, trivial⟩⟩⟩) ?_
    refine wf_pure (v := (.agg ⟨[(.int .i64 n.op), (.int .i64 n.imm), (.slice an_2 n.kids.length kn_2)]⟩)) (id := .l b1) (ap_ldN (i := 0) rfl rfl rfl (HS.hc hs4.log0 (i := 0) rfl) rfl rfl rfl) rfl rfl (did_l rfl) (⟨.inr trivial, ⟨.inr trivial, ⟨.inr trivial, ⟨.inr trivial, trivial⟩⟩⟩⟩) ?_
    refine wf_call (W := []) (ap_call rfl rfl rfl) rfl rfl rfl (sameNode_c ex (l.getD i default) (⟨n.op, n.imm, n.kids⟩ : NodeT) (HS.call hs4.log0) (by omega) (by omega) s8_2 (by omega) (by omega) hn_2 (by omega)) (⟨.inl rfl, ⟨.inl rfl, ⟨.inl rfl, ⟨.inl rfl, ⟨.inl rfl, trivial⟩⟩⟩⟩⟩) ?_
    rintro _ H9 ⟨r9, F9, hF9, hs9, rfl⟩
    refine ⟨Wr.did hs9.log, fun lg9 hlg9 => ?_⟩
    replace hs9 := HS.back hs4.log0 rfl hs9
    replace hs9 := HS.lg hs9 hs4 hlg9
    generalize ({ H9 with log := lg9 } : Heap) = H9g at hs9 ⊢
    have hs9 : HS (Base.of H []) F9 H9g [[(b1, .cells [(.int .i64 n.op), (.int .i64 n.imm), (.slice an_2 n.kids.length kn_2)] none false)]] R := hs9
    replace hl := hl.mono hF9
    replace hn_2 := hn_2.mono hF9
    replace s8_2 := s8_2.mono hF9
    refine wf_nil ?_
    refine wk_foc 1 rfl ?_
    refine wk_if 1 2 (v := r9) rfl rfl rfl rfl (fun c10b => ?_) (fun c10b => ?_)
    · have c10 := c10b
      try simp only [BS] at c10
      refine wr 1 [] 4 4 [] [(4, (.bool true))] trivial (by kernel_rfl) rfl fun gg11 => ?_
      refine wk_ret ⟨.inr rfl, _, rfl, true, _, (Fz.le_trans (hF4) hF9), (HS.forget hs9), rfl⟩
    · have c10 := c10b
      try simp only [BS] at c10
      refine wr 1 [] 10 11 [5] [(5, (.int .i64 ((i : Int) + 1)))] (vA (vi (n := (i : Int) + 1) (by omega)) trivial) (by kernel_rfl) rfl fun gg12 => ?_
      refine ih4 _ _ _ ?_ ⟨i + 1, _, (Fz.le_trans (hF4) hF9), hs9, (agC rfl (agC rfl (agC rfl agN))), rfl, (by first | assumption | omega | (simp at *; omega))⟩
      omega
  · have c6 := c6b
    try simp only [BS] at c6
    refine wr 1 [] 4 4 [] [(4, (.bool false))] trivial (by kernel_rfl) rfl fun gg13 => ?_
    refine wk_ret ⟨.inr rfl, _, rfl, false, _, (hF4), (HS.forget hs4), rfl⟩

theorem nodeSort_c (ex : FuncId) {a_l : Option Addr} {k_l : Nat} (l : List NodeT) {an_2 : Option Addr} {kn_2 : Nat} (n : NodeT) {a_k : Option Addr} {k_k : Nat} (k : List Int) {F : Fz} {H : Heap} {R : List Fp} (hs : HS (.of H []) F H [] R) (hl : SR F (.slice a_l l.length k_l) l) (hn_0 : in64 n.op) (hn_1 : in64 n.imm) (hn_2 : SR F (.slice an_2 n.kids.length kn_2) n.kids) (hk : SR F (.slice a_k k.length k_k) k) (hkl : k.length = n.kids.length) (hok : okOp n.op) (hbk : n.kids.length ≤ 1000) : C Try.prog 0 (KX ex) 66 [(.slice a_l l.length k_l), (.agg ⟨[(.int .i64 n.op), (.int .i64 n.imm), (.slice an_2 n.kids.length kn_2)]⟩), (.slice a_k k.length k_k)] H fun v H' => ∃ (r : Int) (F' : Fz), Fz.le F F' ∧ HS (.of H []) F' H' [] R ∧ v = .int .i64 r ∧ ((n.op = 2 → n.imm = 0 → n.kids = [] → r = 1) ∧ (n.op = 26 → n.imm = 0 → n.kids = [] → r = 2)) ∧ (in64 r) := by
  have e2 : n.op = 2 → n.imm = 0 → n.kids = [] → arOk n.op = true ∧ arV n.op = 0 ∧ viV n.op n.imm = true := fun a b _ => by rw [a, b]; exact ⟨by decide, by decide, by decide⟩
  have e26 : n.op = 26 → n.imm = 0 → n.kids = [] → arOk n.op = true ∧ arV n.op = 0 ∧ viV n.op n.imm = true := fun a b _ => by rw [a, b]; exact ⟨by decide, by decide, by decide⟩
  refine c_enter Try.func66 rfl rfl ?_
  refine wk_foc 1 rfl ?_
  refine wk_region ?_
  refine wo_rs (rs_box hs rfl rfl) rfl rfl ?_
  rintro _ H2 _ ⟨b1, rfl, hs2, _⟩
  have hs2 : HS (Base.of H []) F H2 [[(b1, .cells [(.int .i64 n.op), (.int .i64 n.imm), (.slice an_2 n.kids.length kn_2)] none false)]] R := hs2
  refine wa (.int .i64 0) rfl rfl rfl ?_
  refine wo_end 2 rfl ?_
  refine wr 3 [(1, .o (.int .i64 n.op)), (2, .o (.tuple ⟨[(.int .i64 (arV n.op)), (.bool (arOk n.op))]⟩))] 10 15 [7, 8] [(7, (.int .i64 (arV n.op))), (8, (.bool (arOk n.op)))] (vA (ql 3 0 (HS.hc hs2 (i := 0) rfl) rfl rfl) (vA (arity_c_q ex n.op H2) trivial)) (by kernel_rfl) rfl fun gg3 => ?_
  refine wr 1 [(7, .o (.slice an_2 n.kids.length kn_2)), (15, .o (.int .i64 n.op)), (17, .o (.int .i64 n.imm)), (18, .o (.bool (viV n.op n.imm)))] 16 36 [] [(36, (.bool (((!(arOk n.op)) || ((decide ((0 : Int) ≤ arV n.op)) && ((n.kids.length : Int) != arV n.op))) || (!(viV n.op n.imm)))))] (vA (fun (g1 : (decide ((0 : Int) ≤ arV n.op)) = true) (g2 : (!(arOk n.op)) = false) => (ql 22 2 (HS.hc hs2 (i := 0) rfl) rfl rfl)) (vA (fun (g1 : ((!(arOk n.op)) || ((decide ((0 : Int) ≤ arV n.op)) && ((n.kids.length : Int) != arV n.op))) = false) => (ql 3 0 (HS.hc hs2 (i := 0) rfl) rfl rfl)) (vA (fun (g1 : ((!(arOk n.op)) || ((decide ((0 : Int) ≤ arV n.op)) && ((n.kids.length : Int) != arV n.op))) = false) => (ql 2 1 (HS.hc hs2 (i := 0) rfl) rfl rfl)) (vA (fun (g1 : ((!(arOk n.op)) || ((decide ((0 : Int) ≤ arV n.op)) && ((n.kids.length : Int) != arV n.op))) = false) => (validImm_c_q ex n.op n.imm H2)) trivial)))) (by kernel_rfl) rfl fun gg4 => ?_
  refine wk_if 1 3 (v := (((!(arOk n.op)) || ((decide ((0 : Int) ≤ arV n.op)) && ((n.kids.length : Int) != arV n.op))) || (!(viV n.op n.imm)))) rfl rfl rfl rfl (fun c5b => ?_) (fun c5b => ?_)
  · have c5 := c5b
    try simp only [BS] at c5
    have c0 := c5
    refine wr 1 [] 6 6 [] [(6, (.int .i64 0))] trivial (by kernel_rfl) rfl fun gg6 => ?_
    refine wk_ret ⟨.inr rfl, _, rfl, 0, _, (Fz.le_refl _), (HS.forget hs2), rfl, (by exact ns_bad e2 e26 c5b), (by first | omega | (split <;> omega) | (constructor <;> (split <;> omega)))⟩
  · have c5 := c5b
    try simp only [BS] at c5
    have c0 := c5
    refine wr 3 [(1, .o (.int .i64 n.op))] 37 38 [] [(38, (.int .i64 n.op))] (vA (ql 3 0 (HS.hc hs2 (i := 0) rfl) rfl rfl) trivial) (by kernel_rfl) rfl fun gg7 => ?_
    refine wr 1 [] 39 40 [] [(39, (.bool (n.op == 3)))] trivial (by kernel_rfl) rfl fun gg8 => ?_
    refine wk_iff 1 (v := (n.op == 3)) rfl (by simp only [BS]; unfold okOp at hok; omega) rfl rfl ?_
    refine wr 1 [] 45 46 [] [(45, (.bool (n.op == 26)))] trivial (by kernel_rfl) rfl fun gg9 => ?_
    refine wk_if 1 1 (v := (n.op == 26)) rfl rfl rfl rfl (fun c10b => ?_) (fun c10b => ?_)
    · have c10 := c10b
      try simp only [BS] at c10
      refine wr 1 [] 6 6 [] [(6, (.int .i64 2))] trivial (by kernel_rfl) rfl fun gg11 => ?_
      refine wk_ret ⟨.inr rfl, _, rfl, 2, _, (Fz.le_refl _), (HS.forget hs2), rfl, (by refine ⟨fun a1 a2 a3 => ?_, fun a1 a2 a3 => ?_⟩ <;> first | omega | exact ns_one hkl a3 (by assumption)), (by first | omega | (split <;> omega) | (constructor <;> (split <;> omega)))⟩
    · have c10 := c10b
      try simp only [BS] at c10
      refine wr 1 [] 47 48 [] [(47, (.bool (n.op == 22)))] trivial (by kernel_rfl) rfl fun gg12 => ?_
      refine wk_if 2 1 (v := (n.op == 22)) rfl rfl rfl rfl (fun c13b => ?_) (fun c13b => ?_)
      · have c13 := c13b
        try simp only [BS] at c13
        have av : arV n.op = 3 := by rw [c13]; rfl
        obtain ⟨cf14, hv14⟩ := Sv.view (SR.sv hk hs2)
        have g15 := fI (hv14 0)
        have g16 := fI (hv14 1)
        have g17 := fI (hv14 2)
        refine wrD 1 [(2, .o (.int .i64 (k.getD 0 0))), (7, .o (.int .i64 (k.getD 1 0))), (10, .o (.int .i64 (k.getD 2 0))), (16, .o (.int .i64 (k.getD 1 0)))] 49 67 [] [(67, (.bool ((((k.getD 0 0) != 1) || ((k.getD 1 0) != (k.getD 2 0))) || ((k.getD 1 0) == 3))))] (vA (Sv.ix (j := 0) (SR.sv hk hs2) (by decide) (by omega)) (vA (ql 3 0 (hc0 (vI (hv14 0) (by omega))) rfl rfl) (vA (fun (g1 : ((k.getD 0 0) != 1) = false) => (Sv.ix (j := 1) (SR.sv hk hs2) (by decide) (by (try simp only [BS] at g1); omega))) (vA (fun (g1 : ((k.getD 0 0) != 1) = false) => (ql 3 0 (hc0 (vI (hv14 1) (by (try simp only [BS] at g1); omega))) rfl rfl)) (vA (fun (g1 : ((k.getD 0 0) != 1) = false) => (Sv.ix (j := 2) (SR.sv hk hs2) (by decide) (by (try simp only [BS] at g1); omega))) (vA (fun (g1 : ((k.getD 0 0) != 1) = false) => (ql 3 0 (hc0 (vI (hv14 2) (by (try simp only [BS] at g1); omega))) rfl rfl)) (vA (fun (g1 : (((k.getD 0 0) != 1) || ((k.getD 1 0) != (k.getD 2 0))) = false) => (Sv.ix (j := 1) (SR.sv hk hs2) (by decide) (by (try simp only [BS] at g1); omega))) (vA (fun (g1 : (((k.getD 0 0) != 1) || ((k.getD 1 0) != (k.getD 2 0))) = false) => (ql 3 0 (hc0 (vI (hv14 1) (by (try simp only [BS] at g1); omega))) rfl rfl)) trivial)))))))) rfl (by kernel_rfl) rfl fun gg18 => ?_
        refine wk_if 1 2 (v := ((((k.getD 0 0) != 1) || ((k.getD 1 0) != (k.getD 2 0))) || ((k.getD 1 0) == 3))) rfl rfl rfl rfl (fun c19b => ?_) (fun c19b => ?_)
        · have c19 := c19b
          try simp only [BS] at c19
          refine wr 1 [] 6 6 [] [(6, (.int .i64 0))] trivial (by kernel_rfl) rfl fun gg20 => ?_
          refine wk_ret ⟨.inr rfl, _, rfl, 0, _, (Fz.le_refl _), (HS.forget hs2), rfl, (by refine ⟨fun a1 a2 a3 => ?_, fun a1 a2 a3 => ?_⟩ <;> first | omega | exact ns_one hkl a3 (by assumption)), (by first | omega | (split <;> omega) | (constructor <;> (split <;> omega)))⟩
        · have c19 := c19b
          try simp only [BS] at c19
          obtain ⟨cf21, hv21⟩ := Sv.view (SR.sv hk hs2)
          have g22 := fI (hv21 1)
          refine wr 1 [(2, .o (.int .i64 (k.getD 1 0)))] 68 70 [6] [(6, (.int .i64 (k.getD 1 0)))] (vA (Sv.ix (j := 1) (SR.sv hk hs2) (by decide) (by omega)) (vA (ql 3 0 (vI (hv21 1) (by omega)) rfl rfl) trivial)) (by kernel_rfl) rfl fun gg23 => ?_
          refine wk_ret ⟨.inr rfl, _, rfl, (k.getD 1 0), _, (Fz.le_refl _), (HS.forget hs2), rfl, (by refine ⟨fun a1 a2 a3 => ?_, fun a1 a2 a3 => ?_⟩ <;> first | omega | exact ns_one hkl a3 (by assumption)), (by first | omega | (split <;> omega) | (constructor <;> (split <;> omega)))⟩
      · have c13 := c13b
        try simp only [BS] at c13
        refine wr 1 [] 71 72 [] [(71, (.bool (n.op == 23)))] trivial (by kernel_rfl) rfl fun gg24 => ?_
        refine wk_if 1 1 (v := (n.op == 23)) rfl rfl rfl rfl (fun c25b => ?_) (fun c25b => ?_)
        · have c25 := c25b
          try simp only [BS] at c25
          have av : arV n.op = 2 := by rw [c25]; rfl
          obtain ⟨cf26, hv26⟩ := Sv.view (SR.sv hk hs2)
          have g27 := fI (hv26 0)
          have g28 := fI (hv26 1)
          refine wr 1 [(2, .o (.int .i64 (k.getD 0 0))), (7, .o (.int .i64 (k.getD 1 0))), (10, .o (.int .i64 (if (((k.getD 0 0) == 2) && ((k.getD 1 0) == 1)) = true then (1 : Int) else 0)))] 73 83 [6] [(6, (.int .i64 (if (((k.getD 0 0) == 2) && ((k.getD 1 0) == 1)) = true then (1 : Int) else 0)))] (vA (Sv.ix (j := 0) (SR.sv hk hs2) (by decide) (by omega)) (vA (ql 3 0 (vI (hv26 0) (by omega)) rfl rfl) (vA (fun (g1 : ((k.getD 0 0) == 2) = true) => (Sv.ix (j := 1) (SR.sv hk hs2) (by decide) (by (try simp only [BS] at g1); omega))) (vA (fun (g1 : ((k.getD 0 0) == 2) = true) => (ql 3 0 (vI (hv26 1) (by (try simp only [BS] at g1); omega)) rfl rfl)) (vA (sortIf_c_q ex (((k.getD 0 0) == 2) && ((k.getD 1 0) == 1)) (1) H2) trivial))))) (by kernel_rfl) rfl fun gg29 => ?_
          refine wk_ret ⟨.inr rfl, _, rfl, if (((k.getD 0 0) == 2) && ((k.getD 1 0) == 1)) = true then (1 : Int) else 0, _, (Fz.le_refl _), (HS.forget hs2), rfl, (by refine ⟨fun a1 a2 a3 => ?_, fun a1 a2 a3 => ?_⟩ <;> first | omega | exact ns_one hkl a3 (by assumption)), (by first | omega | (split <;> omega) | (constructor <;> (split <;> omega)))⟩
        · have c25 := c25b
          try simp only [BS] at c25
          refine wr 1 [] 84 85 [] [(84, (.bool (n.op == 24)))] trivial (by kernel_rfl) rfl fun gg30 => ?_
          refine wk_if 1 1 (v := (n.op == 24)) rfl rfl rfl rfl (fun c31b => ?_) (fun c31b => ?_)
          · have c31 := c31b
            try simp only [BS] at c31
            have av : arV n.op = 1 := by rw [c31]; rfl
            obtain ⟨cf32, hv32⟩ := Sv.view (SR.sv hk hs2)
            have g33 := fI (hv32 0)
            refine wr 1 [(2, .o (.int .i64 (k.getD 0 0))), (4, .o (.int .i64 (if ((k.getD 0 0) == 2) = true then (1 : Int) else 0)))] 86 90 [6] [(6, (.int .i64 (if ((k.getD 0 0) == 2) = true then (1 : Int) else 0)))] (vA (Sv.ix (j := 0) (SR.sv hk hs2) (by decide) (by omega)) (vA (ql 3 0 (vI (hv32 0) (by omega)) rfl rfl) (vA (sortIf_c_q ex ((k.getD 0 0) == 2) (1) H2) trivial))) (by kernel_rfl) rfl fun gg34 => ?_
            refine wk_ret ⟨.inr rfl, _, rfl, if ((k.getD 0 0) == 2) = true then (1 : Int) else 0, _, (Fz.le_refl _), (HS.forget hs2), rfl, (by refine ⟨fun a1 a2 a3 => ?_, fun a1 a2 a3 => ?_⟩ <;> first | omega | exact ns_one hkl a3 (by assumption)), (by first | omega | (split <;> omega) | (constructor <;> (split <;> omega)))⟩
          · have c31 := c31b
            try simp only [BS] at c31
            refine wr 1 [] 91 92 [] [(91, (.bool (n.op == 25)))] trivial (by kernel_rfl) rfl fun gg35 => ?_
            refine wk_iff 2 (v := (n.op == 25)) rfl (by simp only [BS]; unfold okOp at hok; omega) rfl rfl ?_
            refine wr 1 [] 117 118 [] [(117, (.bool (n.op == 27)))] trivial (by kernel_rfl) rfl fun gg36 => ?_
            refine wk_if 1 0 (v := (n.op == 27)) rfl rfl rfl rfl (fun c37b => ?_) (fun c37b => ?_)
            · have c37 := c37b
              try simp only [BS] at c37
              have av : arV n.op = 2 := by rw [c37]; rfl
              refine wk_ift 1 (v := (n.op == 27)) rfl c37b rfl rfl ?_
              obtain ⟨cf38, hv38⟩ := Sv.view (SR.sv hk hs2)
              have g39 := fI (hv38 0)
              have g40 := fI (hv38 1)
              refine wr 1 [(2, .o (.int .i64 (k.getD 0 0))), (7, .o (.int .i64 (k.getD 1 0))), (10, .o (.int .i64 (if (((k.getD 0 0) == 2) && ((k.getD 1 0) == 1)) = true then (2 : Int) else 0)))] 120 130 [6] [(6, (.int .i64 (if (((k.getD 0 0) == 2) && ((k.getD 1 0) == 1)) = true then (2 : Int) else 0)))] (vA (Sv.ix (j := 0) (SR.sv hk hs2) (by decide) (by omega)) (vA (ql 3 0 (vI (hv38 0) (by omega)) rfl rfl) (vA (fun (g1 : ((k.getD 0 0) == 2) = true) => (Sv.ix (j := 1) (SR.sv hk hs2) (by decide) (by (try simp only [BS] at g1); omega))) (vA (fun (g1 : ((k.getD 0 0) == 2) = true) => (ql 3 0 (vI (hv38 1) (by (try simp only [BS] at g1); omega)) rfl rfl)) (vA (sortIf_c_q ex (((k.getD 0 0) == 2) && ((k.getD 1 0) == 1)) (2) H2) trivial))))) (by kernel_rfl) rfl fun gg41 => ?_
              refine wk_ret ⟨.inr rfl, _, rfl, if (((k.getD 0 0) == 2) && ((k.getD 1 0) == 1)) = true then (2 : Int) else 0, _, (Fz.le_refl _), (HS.forget hs2), rfl, (by refine ⟨fun a1 a2 a3 => ?_, fun a1 a2 a3 => ?_⟩ <;> first | omega | exact ns_one hkl a3 (by assumption)), (by first | omega | (split <;> omega) | (constructor <;> (split <;> omega)))⟩
            · have c37 := c37b
              try simp only [BS] at c37
              refine wr 1 [] 117 119 [] [(117, (.bool (n.op == 29)))] trivial (by kernel_rfl) rfl fun gg42 => ?_
              refine wk_if 1 1 (v := (n.op == 29)) rfl rfl rfl rfl (fun c43b => ?_) (fun c43b => ?_)
              · have c43 := c43b
                try simp only [BS] at c43
                have av : arV n.op = 2 := by rw [c43]; rfl
                obtain ⟨cf44, hv44⟩ := Sv.view (SR.sv hk hs2)
                have g45 := fI (hv44 0)
                have g46 := fI (hv44 1)
                refine wr 1 [(2, .o (.int .i64 (k.getD 0 0))), (7, .o (.int .i64 (k.getD 1 0))), (10, .o (.int .i64 (if (((k.getD 0 0) == 2) && ((k.getD 1 0) == 1)) = true then (2 : Int) else 0)))] 120 130 [6] [(6, (.int .i64 (if (((k.getD 0 0) == 2) && ((k.getD 1 0) == 1)) = true then (2 : Int) else 0)))] (vA (Sv.ix (j := 0) (SR.sv hk hs2) (by decide) (by omega)) (vA (ql 3 0 (vI (hv44 0) (by omega)) rfl rfl) (vA (fun (g1 : ((k.getD 0 0) == 2) = true) => (Sv.ix (j := 1) (SR.sv hk hs2) (by decide) (by (try simp only [BS] at g1); omega))) (vA (fun (g1 : ((k.getD 0 0) == 2) = true) => (ql 3 0 (vI (hv44 1) (by (try simp only [BS] at g1); omega)) rfl rfl)) (vA (sortIf_c_q ex (((k.getD 0 0) == 2) && ((k.getD 1 0) == 1)) (2) H2) trivial))))) (by kernel_rfl) rfl fun gg47 => ?_
                refine wk_ret ⟨.inr rfl, _, rfl, if (((k.getD 0 0) == 2) && ((k.getD 1 0) == 1)) = true then (2 : Int) else 0, _, (Fz.le_refl _), (HS.forget hs2), rfl, (by refine ⟨fun a1 a2 a3 => ?_, fun a1 a2 a3 => ?_⟩ <;> first | omega | exact ns_one hkl a3 (by assumption)), (by first | omega | (split <;> omega) | (constructor <;> (split <;> omega)))⟩
              · have c43 := c43b
                try simp only [BS] at c43
                refine wr 1 [] 131 132 [] [(131, (.bool (n.op == 28)))] trivial (by kernel_rfl) rfl fun gg48 => ?_
                refine wk_if 1 1 (v := (n.op == 28)) rfl rfl rfl rfl (fun c49b => ?_) (fun c49b => ?_)
                · have c49 := c49b
                  try simp only [BS] at c49
                  have av : arV n.op = 3 := by rw [c49]; rfl
                  obtain ⟨cf50, hv50⟩ := Sv.view (SR.sv hk hs2)
                  have g51 := fI (hv50 0)
                  have g52 := fI (hv50 1)
                  have g53 := fI (hv50 2)
                  refine wr 1 [(2, .o (.int .i64 (k.getD 0 0))), (7, .o (.int .i64 (k.getD 1 0))), (13, .o (.int .i64 (k.getD 2 0))), (16, .o (.int .i64 (if ((((k.getD 0 0) == 2) && ((k.getD 1 0) == 1)) && ((k.getD 2 0) == 1)) = true then (2 : Int) else 0)))] 133 149 [6] [(6, (.int .i64 (if ((((k.getD 0 0) == 2) && ((k.getD 1 0) == 1)) && ((k.getD 2 0) == 1)) = true then (2 : Int) else 0)))] (vA (Sv.ix (j := 0) (SR.sv hk hs2) (by decide) (by omega)) (vA (ql 3 0 (vI (hv50 0) (by omega)) rfl rfl) (vA (fun (g1 : ((k.getD 0 0) == 2) = true) => (Sv.ix (j := 1) (SR.sv hk hs2) (by decide) (by (try simp only [BS] at g1); omega))) (vA (fun (g1 : ((k.getD 0 0) == 2) = true) => (ql 3 0 (vI (hv50 1) (by (try simp only [BS] at g1); omega)) rfl rfl)) (vA (fun (g1 : (((k.getD 0 0) == 2) && ((k.getD 1 0) == 1)) = true) => (Sv.ix (j := 2) (SR.sv hk hs2) (by decide) (by (try simp only [BS] at g1); omega))) (vA (fun (g1 : (((k.getD 0 0) == 2) && ((k.getD 1 0) == 1)) = true) => (ql 3 0 (vI (hv50 2) (by (try simp only [BS] at g1); omega)) rfl rfl)) (vA (sortIf_c_q ex ((((k.getD 0 0) == 2) && ((k.getD 1 0) == 1)) && ((k.getD 2 0) == 1)) (2) H2) trivial))))))) (by kernel_rfl) rfl fun gg54 => ?_
                  refine wk_ret ⟨.inr rfl, _, rfl, if ((((k.getD 0 0) == 2) && ((k.getD 1 0) == 1)) && ((k.getD 2 0) == 1)) = true then (2 : Int) else 0, _, (Fz.le_refl _), (HS.forget hs2), rfl, (by refine ⟨fun a1 a2 a3 => ?_, fun a1 a2 a3 => ?_⟩ <;> first | omega | exact ns_one hkl a3 (by assumption)), (by first | omega | (split <;> omega) | (constructor <;> (split <;> omega)))⟩
                · have c49 := c49b
                  try simp only [BS] at c49
                  refine wr 1 [] 150 151 [] [(150, (.bool (n.op == 30)))] trivial (by kernel_rfl) rfl fun gg55 => ?_
                  refine wk_iff 1 (v := (n.op == 30)) rfl (by simp only [BS]; unfold okOp at hok; omega) rfl rfl ?_
                  refine wr 1 [] 172 173 [] [(172, (.bool (n.op == 31)))] trivial (by kernel_rfl) rfl fun gg56 => ?_
                  refine wk_iff 3 (v := (n.op == 31)) rfl (by simp only [BS]; unfold okOp at hok; omega) rfl rfl ?_
                  refine wk_region ?_
                  refine wm (.slice a_k k.length k_k) rfl rfl rfl ?_
                  refine wo_call (ap_call rfl rfl rfl) rfl rfl (allValues_c ex k (HS.call hs2) hk (by omega)) ?_
                  rintro _ H2 ⟨r57, rfl, rfl, h57⟩
                  refine wro 2 2 [(2, .o (.int .i64 (if r57 = true then (1 : Int) else 0)))] 6 6 [220] [(6, (.int .i64 (if r57 = true then (1 : Int) else 0)))] (vA (sortIf_c_q ex r57 (1) H2) trivial) (by kernel_rfl) rfl fun gg58 => ?_
                  refine wo_end 1 rfl ?_
                  refine wk_ret ⟨.inr rfl, _, rfl, if r57 = true then (1 : Int) else 0, _, (Fz.le_refl _), (HS.forget hs2), rfl, (by refine ⟨fun a1 a2 a3 => ?_, fun a1 a2 a3 => ?_⟩ <;> first | omega | exact ns_one hkl a3 (by assumption)), (by first | omega | (split <;> omega) | (constructor <;> (split <;> omega)))⟩

theorem gdl {a b : List Int} {j : Nat} (h : j < a.length) : (a ++ b).getD j 0 = a.getD j 0 := by
  rw [List.getD_eq_getElem?_getD, List.getD_eq_getElem?_getD, List.getElem?_append_left h]
theorem gdr {a : List Int} {b : Int} : (a ++ [b]).getD a.length 0 = b := by
  rw [List.getD_eq_getElem?_getD, List.getElem?_append_right (Nat.le_refl _), Nat.sub_self]; rfl
def srtF (l : Nds) (i : Nat) (out : List Int) : Prop := out.length = i ∧ (0 < i → out.getD 0 0 = 1) ∧ (2 < i → out.getD 2 0 = 2)
theorem srt0 {l : Nds} : srtF l 0 [] := ⟨rfl, fun h => by omega, fun h => by omega⟩
theorem srt_add {l : Nds} {i : Nat} {out : List Int} {r : Int} (h : srtF l i out) (h0 : i = 0 → r = 1) (h2 : i = 2 → r = 2) : srtF l (i + 1) (out ++ [r]) := by
  obtain ⟨h1, h3, h4⟩ := h
  refine ⟨by simp [h1], fun _ => ?_, fun hi => ?_⟩
  · by_cases e : i = 0
    · subst e
      have : out = [] := List.eq_nil_of_length_eq_zero h1
      subst this; exact h0 rfl
    · rw [gdl (by omega)]; exact h3 (by omega)
  · by_cases e : i = 2
    · subst e
      rw [show (2 : Nat) = out.length from h1.symm, gdr]; exact h2 rfl
    · rw [gdl (by omega)]; exact h4 (by omega)
theorem srt_ns {l : Nds} {i : Nat} {out : List Int} {r : Int} (hg : NdOK l) (h : srtF l i out) (hr : ((l.getD i default).op = 2 → (l.getD i default).imm = 0 → (l.getD i default).kids = [] → r = 1) ∧ ((l.getD i default).op = 26 → (l.getD i default).imm = 0 → (l.getD i default).kids = [] → r = 2)) : srtF l (i + 1) (out ++ [r]) :=
  srt_add h (fun e => by subst e; exact hr.1 hg.n0.1 hg.n0.2.1 hg.n0.2.2) (fun e => by subst e; exact hr.2 hg.n2.1 hg.n2.2.1 hg.n2.2.2)
theorem srt_no {l : Nds} {i : Nat} {out : List Int} (hg : NdOK l) (h : srtF l i out) (hk : (l.getD i default).kids ≠ []) : srtF l (i + 1) (out ++ [0]) :=
  srt_add h (fun e => by subst e; exact absurd hg.n0.2.2 hk) (fun e => by subst e; exact absurd hg.n2.2.2 hk)
theorem kne {l : List Int} {j : Nat} (h : (j : Int) < (l.length : Int)) : l ≠ [] := by intro e; rw [e] at h; simp at h; omega

theorem sorts_c (ex : FuncId) {a_l : Option Addr} {k_l : Nat} (l : List NodeT) {F : Fz} {H : Heap} {R : List Fp} (hs : HS (.of H []) F H [] R) (hl : SR F (.slice a_l l.length k_l) l) (hg : NdOK l) (hb : l.length ≤ 1000 ∧ ∀ i, (l.getD i default).kids.length ≤ 1000) : C Try.prog 0 (KX ex) 51 [(.slice a_l l.length k_l)] H fun v H' => ∃ (ar : Option Addr) (kr : Nat) (r : List Int) (p : Fp) (F' : Fz), Fz.le F F' ∧ HS (.of H []) F' H' [p] R ∧ v = .slice ar r.length kr ∧ OS F' (.slice ar r.length kr) r p ∧ (srtF l l.length r) := by
  refine c_enter Try.func51 rfl rfl ?_
  refine wk_foc 1 rfl ?_
  refine wr 2 [] 2 2 [] [(2, (.slice none 0 0))] trivial (by kernel_rfl) rfl fun gg1 => ?_
  refine wr 3 [] 1 0 [3] [(3, (.slice none 0 0))] trivial (by kernel_rfl) rfl fun gg2 => ?_
  refine wr 2 [] 1 0 [4] [(4, (.int .i64 0))] trivial (by kernel_rfl) rfl fun gg3 => ?_
  have hs5 := HS.snoc hs
  have hs5 : HS (Base.of H []) F H [[]] R := hs5
  refine wk_loop_inv (fun (mm : Nat) f H' => ∃ (out : List Int) (i : Nat) (la4_3 : Option Addr) (lk4_3 : Nat) (lp4_3 : Fp) (F' : Fz), Fz.le F F' ∧ HS (Base.of H []) F' H' [lp4_3] R ∧ OS F' (.slice la4_3 out.length lk4_3) out lp4_3 ∧ agrees f [(0, (.slice a_l l.length k_l)), (2, (.slice none 0 0)), (3, (.slice la4_3 out.length lk4_3)), (4, (.int .i64 (i : Int)))] ∧ mm = l.length - i ∧ (i ≤ l.length) ∧ (srtF l i out)) _ ⟨([] : List Int), 0, none, 0, [], _, (Fz.le_refl _), hs5, (OS.nil : OS F (.slice none 0 0) ([] : List Int) []), (agC rfl (agC rfl (agC rfl (agC rfl agN)))), rfl, (by first | assumption | omega | (simp at *; omega)), (by exact srt0)⟩ ?_
  rintro mm4 f4 H4 ⟨out, i, la4_3, lk4_3, lp4_3, F4, hF4, hs4, lh4_3, hf4, rfl, h1, h2⟩ ih4
  refine wk_canon _ hf4 (fun gg4 => ?_)
  clear hf4
  replace hl := hl.mono hF4
  have hbk := hb.2 i
  have ol := h2.1
  refine wk_foc 2 rfl ?_
  refine wr 1 [] 9 12 [] [(12, (.bool (decide ((i : Int) < (l.length : Int)))))] trivial (by kernel_rfl) rfl fun gg6 => ?_
  refine wk_if 4 5 (v := (decide ((i : Int) < (l.length : Int)))) rfl rfl rfl rfl (fun c7b => ?_) (fun c7b => ?_)
  · have c7 := c7b
    try simp only [BS] at c7
    have oki := okOp_at hg.ok (i := i) (by omega)
    refine wr 2 [] 1 0 [5] [(5, (.slice none 0 0))] trivial (by kernel_rfl) rfl fun gg8 => ?_
    refine wr 3 [] 1 0 [6] [(6, (.bool true))] trivial (by kernel_rfl) rfl fun gg9 => ?_
    refine wr 2 [] 1 0 [7] [(7, (.int .i64 0))] trivial (by kernel_rfl) rfl fun gg10 => ?_
    have hs12 := HS.snoc hs4
    have hs12 : HS (Base.of H []) F4 H4 [lp4_3, []] R := hs12
    refine wk_loop_inv (fun (mm : Nat) f H' => ∃ (ks : List Int) (j : Nat) (la11_5 : Option Addr) (lk11_5 : Nat) (lp11_5 : Fp) (F' : Fz), Fz.le F4 F' ∧ HS (Base.of H []) F' H' [lp4_3, lp11_5] R ∧ OS F' (.slice la11_5 ks.length lk11_5) ks lp11_5 ∧ agrees f [(0, (.slice a_l l.length k_l)), (2, (.slice none 0 0)), (3, (.slice la4_3 out.length lk4_3)), (4, (.int .i64 (i : Int))), (5, (.slice la11_5 ks.length lk11_5)), (6, (.bool true)), (7, (.int .i64 (j : Int))), (12, (.bool (decide ((i : Int) < (l.length : Int)))))] ∧ mm = (l.getD i default).kids.length - j ∧ (j ≤ (l.getD i default).kids.length) ∧ (ks.length = j)) _ ⟨([] : List Int), 0, none, 0, [], _, (Fz.le_refl _), hs12, (OS.nil : OS F4 (.slice none 0 0) ([] : List Int) []), (agC rfl (agC rfl (agC rfl (agC rfl (agC rfl (agC rfl (agC rfl (agC rfl agN)))))))), rfl, (by first | assumption | omega | (simp at *; omega)), (by rfl)⟩ ?_
    rintro mm11 f11 H11 ⟨ks, j, la11_5, lk11_5, lp11_5, F11, hF11, hs11, lh11_5, hf11, rfl, h3, h4⟩ ih11
    refine wk_canon _ hf11 (fun gg11 => ?_)
    clear hf11
    replace hl := hl.mono hF11
    replace lh4_3 := lh4_3.mono hF11
    refine wk_foc 2 rfl ?_
    obtain ⟨cf13, hv13⟩ := Sv.view (SR.sv hl hs11)
    obtain ⟨g14_0, g14_1, s14_2⟩ := NodeT.fx (hv13 i)
    refine wr 1 [(5, .o (.slice (cA (cf13 i) 2) ((l.getD i default).kids).length (cK (cf13 i) 2)))] 15 22 [] [(22, (.bool (decide ((j : Int) < (((l.getD i default).kids).length : Int)))))] (vA (Sv.ix (j := (i : Int)) (SR.sv hl hs11) (by omega) (by omega)) (vA (ql 22 2 (NodeT.vw (hv13 i) (by omega)) rfl rfl) trivial)) (by kernel_rfl) rfl fun gg15 => ?_
    refine wk_if 4 5 (v := (decide ((j : Int) < (((l.getD i default).kids).length : Int)))) rfl rfl rfl rfl (fun c16b => ?_) (fun c16b => ?_)
    · have c16 := c16b
      try simp only [BS] at c16
      have kn := kne c16
      obtain ⟨cf17, hv17⟩ := Sv.view (SR.sv hl hs11)
      obtain ⟨g18_0, g18_1, s18_2⟩ := NodeT.fx (hv17 i)
      obtain ⟨cf19, hv19⟩ := Sv.view (SR.sv s18_2 hs11)
      have g20 := fI (hv19 j)
      refine wr 3 [(4, .o (.slice (cA (cf17 i) 2) ((l.getD i default).kids).length (cK (cf17 i) 2))), (7, .o (.int .i64 (((l.getD i default).kids).getD j 0)))] 25 32 [8] [(8, (.int .i64 (((l.getD i default).kids).getD j 0)))] (vA (Sv.ix (j := (i : Int)) (SR.sv hl hs11) (by omega) (by omega)) (vA (ql 22 2 (NodeT.vw (hv17 i) (by omega)) rfl rfl) (vA (Sv.ix (j := (j : Int)) (SR.sv s18_2 hs11) (by omega) (by omega)) (vA (ql 3 0 (vI (hv19 j) (by omega)) rfl rfl) trivial)))) (by kernel_rfl) rfl fun gg21 => ?_
      obtain ⟨cf22, hv22⟩ := Sv.view (OS.sv lh4_3 hs11 (i := 0) rfl)
      have g23 := fI (hv22 ((((l.getD i default).kids).getD j 0).toNat))
      refine wr 1 [(11, .o (.int .i64 (out.getD ((((l.getD i default).kids).getD j 0).toNat) 0)))] 33 46 [] [(46, (.bool (((decide ((((l.getD i default).kids).getD j 0) < 0)) || (decide ((i : Int) ≤ (((l.getD i default).kids).getD j 0)))) || ((out.getD ((((l.getD i default).kids).getD j 0).toNat) 0) == 0))))] (vA (fun (g1 : ((decide ((((l.getD i default).kids).getD j 0) < 0)) || (decide ((i : Int) ≤ (((l.getD i default).kids).getD j 0)))) = false) => (Sv.ix (j := (((l.getD i default).kids).getD j 0)) (OS.sv lh4_3 hs11 (i := 0) rfl) (by (try simp only [BS] at g1); omega) (by (try simp only [BS] at g1); omega))) (vA (fun (g1 : ((decide ((((l.getD i default).kids).getD j 0) < 0)) || (decide ((i : Int) ≤ (((l.getD i default).kids).getD j 0)))) = false) => (ql 3 0 (vI (hv22 ((((l.getD i default).kids).getD j 0).toNat)) (by (try simp only [BS] at g1); omega)) rfl rfl)) trivial)) (by kernel_rfl) rfl fun gg24 => ?_
      refine wk_if 1 1 (v := (((decide ((((l.getD i default).kids).getD j 0) < 0)) || (decide ((i : Int) ≤ (((l.getD i default).kids).getD j 0)))) || ((out.getD ((((l.getD i default).kids).getD j 0).toNat) 0) == 0))) rfl rfl rfl rfl (fun c25b => ?_) (fun c25b => ?_)
      · have c25 := c25b
        try simp only [BS] at c25
        refine wr 8 [] 1 0 [6] [(6, (.bool false))] trivial (by kernel_rfl) rfl fun gg26 => ?_
        refine wr 1 [] 54 54 [] [(54, (.bool false))] trivial (by kernel_rfl) rfl fun gg27 => ?_
        refine wk_iff 0 (v := false) rfl rfl rfl rfl ?_
        refine wk_region ?_
        refine wm (.slice la4_3 out.length lk4_3) rfl rfl rfl ?_
        refine wo_rs (rs_lit (α := Int) (ps := [(0, (.int .i64 0))]) (cells := [(.int .i64 0)]) ([0] : List Int) hs11 rfl rfl rfl (by kernel_rfl) ⟨[(.int .i64 0)], [], rfl, ⟨rfl, by omega⟩, rfl⟩ rfl) rfl rfl ?_
        rintro _ H29 p28 ⟨a28, k28, rfl, ho28, hs29, _⟩
        have hs29 : HS (Base.of H []) F11 H29 [lp4_3, lp11_5, p28] R := hs29
        refine wo_rs (rs_app (α := Int) (q := 0) lh4_3 hs29 rfl rfl rfl (OS.sv ho28 hs29 (i := 2) rfl) rfl rfl rfl rfl rfl rfl rfl (by simp only [List.length_append, List.length_cons, List.length_nil]; omega)) rfl rfl ?_
        rintro _ H31 p30 ⟨a30, k30, rfl, ho30, hs31, _⟩
        have hs31 : HS (Base.of H []) F11 H31 [p30, lp11_5, p28] R := hs31
        refine wa (.slice a30 (out ++ ([0] : List Int)).length k30) rfl rfl rfl ?_
        refine wo_end 2 rfl ?_
        refine wr 1 [] 13 14 [4] [(4, (.int .i64 ((i : Int) + 1)))] (vA (vi (n := (i : Int) + 1) (by omega)) trivial) (by kernel_rfl) rfl fun gg32 => ?_
        refine ih4 _ _ _ ?_ ⟨out ++ ([0] : List Int), i + 1, a30, k30, p30, _, (Fz.le_trans (hF4) hF11), (HS.sub hs31 (List.sublist_append_left _ _)), ho30, (agC rfl (agC rfl (agC rfl (agC rfl agN)))), rfl, (by first | assumption | omega | (simp at *; omega)), (by first | exact srt_ns hg h2 (by assumption) | exact srt_no hg h2 (by assumption))⟩
        omega
      · have c25 := c25b
        try simp only [BS] at c25
        refine wk_region ?_
        obtain ⟨cf33, hv33⟩ := Sv.view (OS.sv lh4_3 hs11 (i := 0) rfl)
        have g34 := fI (hv33 ((((l.getD i default).kids).getD j 0).toNat))
        refine wro 5 0 [(4, .o (.int .i64 (out.getD ((((l.getD i default).kids).getD j 0).toNat) 0)))] 47 51 [] [(47, (.slice la11_5 ks.length lk11_5)), (51, (.int .i64 (out.getD ((((l.getD i default).kids).getD j 0).toNat) 0)))] (vA (Sv.ix (j := (((l.getD i default).kids).getD j 0)) (OS.sv lh4_3 hs11 (i := 0) rfl) (by omega) (by omega)) (vA (ql 3 0 (vI (hv33 ((((l.getD i default).kids).getD j 0).toNat)) (by omega)) rfl rfl) trivial)) (by kernel_rfl) rfl fun gg35 => ?_
        refine wo_rs (rs_lit (α := Int) (ps := [(0, (.int .i64 (out.getD ((((l.getD i default).kids).getD j 0).toNat) 0)))]) (cells := [(.int .i64 (out.getD ((((l.getD i default).kids).getD j 0).toNat) 0))]) ([(out.getD ((((l.getD i default).kids).getD j 0).toNat) 0)] : List Int) hs11 rfl rfl rfl (by kernel_rfl) ⟨[(.int .i64 (out.getD ((((l.getD i default).kids).getD j 0).toNat) 0))], [], rfl, ⟨rfl, by omega⟩, rfl⟩ rfl) rfl rfl ?_
        rintro _ H37 p36 ⟨a36, k36, rfl, ho36, hs37, _⟩
        have hs37 : HS (Base.of H []) F11 H37 [lp4_3, lp11_5, p36] R := hs37
        refine wo_rs (rs_app (α := Int) (q := 1) lh11_5 hs37 rfl rfl rfl (OS.sv ho36 hs37 (i := 2) rfl) rfl rfl rfl rfl rfl rfl rfl (by simp only [List.length_append, List.length_cons, List.length_nil]; omega)) rfl rfl ?_
        rintro _ H39 p38 ⟨a38, k38, rfl, ho38, hs39, _⟩
        have hs39 : HS (Base.of H []) F11 H39 [lp4_3, p38, p36] R := hs39
        refine wa (.slice a38 (ks ++ ([(out.getD ((((l.getD i default).kids).getD j 0).toNat) 0)] : List Int)).length k38) rfl rfl rfl ?_
        refine wo_end 2 rfl ?_
        refine wr 1 [] 23 24 [7] [(7, (.int .i64 ((j : Int) + 1)))] (vA (vi (n := (j : Int) + 1) (by omega)) trivial) (by kernel_rfl) rfl fun gg40 => ?_
        refine ih11 _ _ _ ?_ ⟨ks ++ ([(out.getD ((((l.getD i default).kids).getD j 0).toNat) 0)] : List Int), j + 1, a38, k38, p38, _, (hF11), (HS.sub hs39 (List.sublist_append_left _ _)), ho38, (agC rfl (agC rfl (agC rfl (agC rfl (agC rfl (agC rfl (agC rfl (agC rfl agN)))))))), rfl, (by first | assumption | omega | (simp at *; omega)), (by simp; omega)⟩
        omega
    · have c16 := c16b
      try simp only [BS] at c16
      refine wr 1 [] 54 54 [] [(54, (.bool true))] trivial (by kernel_rfl) rfl fun gg41 => ?_
      refine wk_ift 0 (v := true) rfl rfl rfl rfl ?_
      refine wk_region ?_
      obtain ⟨cf42, hv42⟩ := Sv.view (SR.sv hl hs11)
      obtain ⟨g43_0, g43_1, s43_2⟩ := NodeT.fx (hv42 i)
      refine wro 7 0 [(5, .o (.agg ⟨[(.int .i64 ((l.getD i default).op)), (.int .i64 ((l.getD i default).imm)), (.slice (cA (cf42 i) 2) ((l.getD i default).kids).length (cK (cf42 i) 2))]⟩))] 55 61 [] [(55, (.slice la4_3 out.length lk4_3)), (56, (.slice a_l l.length k_l)), (60, (.agg ⟨[(.int .i64 ((l.getD i default).op)), (.int .i64 ((l.getD i default).imm)), (.slice (cA (cf42 i) 2) ((l.getD i default).kids).length (cK (cf42 i) 2))]⟩)), (61, (.slice la11_5 ks.length lk11_5))] (vA (Sv.ix (j := (i : Int)) (SR.sv hl hs11) (by omega) (by omega)) (vA (qn 24 0 3 (NodeT.vw (hv42 i) (by omega)) rfl rfl rfl rfl) trivial)) (by kernel_rfl) rfl fun gg44 => ?_
      obtain ⟨F45, hF45, hs45, hr45, hp45⟩ := OS.frz lh11_5 hs11 (i := 1) rfl
      have hs45 : HS (Base.of H []) F45 H11 [lp4_3, []] R := hs45
      refine wo_call (ap_call rfl rfl rfl) rfl rfl (nodeSort_c ex l (l.getD i default) ks (HS.call hs45) (hl.mono hF45) (by omega) (by omega) (s43_2.mono hF45) hr45 (by first | omega | exact oki) (by first | omega | exact oki) (by first | omega | exact oki)) ?_
      rintro _ H46 ⟨r46, F46, hF46, hs46, rfl, h46, g46⟩
      replace hs46 := HS.back hs45 rfl hs46
      have hs46 : HS (Base.of H []) F46 H46 [lp4_3, []] R := hs46
      replace hs46 := HS.thaw hs11 (i := 1) rfl hF45 hp45 hF46 hs46
      have hs46 : HS (Base.of H []) F11 H46 [lp4_3, lp11_5] R := hs46
      refine wo_rs (rs_lit (α := Int) (ps := [(0, (.int .i64 r46))]) (cells := [(.int .i64 r46)]) ([r46] : List Int) hs46 rfl rfl rfl (by kernel_rfl) ⟨[(.int .i64 r46)], [], rfl, ⟨rfl, by omega⟩, rfl⟩ rfl) rfl rfl ?_
      rintro _ H48 p47 ⟨a47, k47, rfl, ho47, hs48, _⟩
      have hs48 : HS (Base.of H []) F11 H48 [lp4_3, lp11_5, p47] R := hs48
      refine wo_rs (rs_app (α := Int) (q := 0) lh4_3 hs48 rfl rfl rfl (OS.sv ho47 hs48 (i := 2) rfl) rfl rfl rfl rfl rfl rfl rfl (by simp only [List.length_append, List.length_cons, List.length_nil]; omega)) rfl rfl ?_
      rintro _ H50 p49 ⟨a49, k49, rfl, ho49, hs50, _⟩
      have hs50 : HS (Base.of H []) F11 H50 [p49, lp11_5, p47] R := hs50
      refine wa (.slice a49 (out ++ ([r46] : List Int)).length k49) rfl rfl rfl ?_
      refine wo_end 2 rfl ?_
      refine wr 1 [] 13 14 [4] [(4, (.int .i64 ((i : Int) + 1)))] (vA (vi (n := (i : Int) + 1) (by omega)) trivial) (by kernel_rfl) rfl fun gg51 => ?_
      refine ih4 _ _ _ ?_ ⟨out ++ ([r46] : List Int), i + 1, a49, k49, p49, _, (Fz.le_trans (hF4) hF11), (HS.sub hs50 (List.sublist_append_left _ _)), ho49, (agC rfl (agC rfl (agC rfl (agC rfl agN)))), rfl, (by first | assumption | omega | (simp at *; omega)), (by first | exact srt_ns hg h2 (by assumption) | exact srt_no hg h2 (by assumption))⟩
      omega
  · have c7 := c7b
    try simp only [BS] at c7
    refine wr 1 [] 2 2 [68] [(2, (.slice la4_3 out.length lk4_3))] trivial (by kernel_rfl) rfl fun gg52 => ?_
    refine wk_ret ⟨.inr rfl, _, rfl, la4_3, lk4_3, out, lp4_3, _, (hF4), (HS.only hs4 (i := 0) rfl), rfl, lh4_3, (by have e := ile h1 (by omega); rw [e] at h2; exact h2)⟩
end Go.Proofs.Ytcakpkdeojhacaa.k4
