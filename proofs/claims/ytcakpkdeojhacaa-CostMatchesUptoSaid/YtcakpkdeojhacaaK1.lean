/-
  Costs of nodes: the program and the reference, function by function, each by a symbolic run. No condition but bounds on lengths.
-/
import Derived.Test.YtcakpkdeojhacaaRxN
import Derived.Test.YtcakpkdeojhacaaRxArg
import Derived.Test.YtcakpkdeojhacaaRxV5
import Derived.Test.YtcakpkdeojhacaaChecked
noncomputable section
namespace Go.Proofs.Ytcakpkdeojhacaa.k1
open Go.R
set_option maxRecDepth 10000
set_option linter.unusedVariables false
theorem ql {H : Heap} {b o : Nat} {cs : List Value} {w : Value} (t : TypeId) (i : Nat) (hc : HC H.get b o cs) (ha : aggOf Try.prog t = some false) (hv : cs[i]? = some w) : LDv Try.prog H t (.pointer (some ⟨b, o + i, none⟩)) w := ld1 hc ha hv
theorem qn {H : Heap} {b o : Nat} {cs l : List Value} (t : TypeId) (i n : Nat) (hc : HC H.get b o cs) (ha : aggOf Try.prog t = some true) (hs : szOf Try.prog t = some n) (hn : Nat.ble (i + n) cs.length = true) (hl : takeL (dropL cs i) n = l) : LDv Try.prog H t (.pointer (some ⟨b, o + i, none⟩)) (.agg ⟨l⟩) := ldN hc ha hs hn hl
structure NodeT where
  op : Int
  imm : Int
  kids : (List Int)
  deriving Inhabited
instance : Rp NodeT where
  sz := 3
  rep F cs x := ∃ a2 k2, cs = [.int .i64 x.op, .int .i64 x.imm, .slice a2 x.kids.length k2] ∧ in64 x.op ∧ in64 x.imm ∧ SR F (.slice a2 x.kids.length k2) x.kids
  len := by rintro F cs x ⟨a2, k2, rfl, _⟩; rfl
  one := by rintro F cs x ⟨a2, k2, rfl, _⟩; rfl
  mono := by rintro F F' cs x hF ⟨a2, k2, rfl, h0, h1, h2⟩; exact ⟨a2, k2, rfl, h0, h1, h2.mono hF⟩
theorem NodeT.vw {F : Fz} {get : Nat → Option AObj} {v : Value} {cf : Nat → List Value} {j : Nat} {l : List NodeT} (h : VW F get v l cf j) (hj : j < l.length) : HC get (sB v) (sO v + j * Rp.sz NodeT) [.int .i64 (l.getD j default).op, .int .i64 (l.getD j default).imm, .slice (cA (cf j) 2) (l.getD j default).kids.length (cK (cf j) 2)] := by
  obtain ⟨⟨a2, k2, h1, _⟩, h2⟩ := h.1 default hj
  rw [show cf j = _ from h1] at h2 ⊢; exact h2
theorem NodeT.fx {F : Fz} {get : Nat → Option AObj} {v : Value} {cf : Nat → List Value} {j : Nat} {l : List NodeT} (h : VW F get v l cf j) : in64 (l.getD j default).op ∧ in64 (l.getD j default).imm ∧ SR F (.slice (cA (cf j) 2) (l.getD j default).kids.length (cK (cf j) 2)) (l.getD j default).kids := by
  rcases Nat.lt_or_ge j l.length with hj | hj
  · obtain ⟨⟨a2, k2, g1, h0, h1, h2⟩, _⟩ := h.1 default hj
    rw [show cf j = _ from g1]; exact ⟨h0, h1, h2⟩
  · rw [getD_out hj, h.2 hj]; exact ⟨by decide, by decide, SR.nil⟩

structure RdrT where
  l : (List Int)
  loops : Int
  deriving Inhabited
instance : Rp RdrT where
  sz := 2
  rep F cs x := ∃ a0 k0, cs = [.slice a0 x.l.length k0, .int .i64 x.loops] ∧ in64 x.loops ∧ SR F (.slice a0 x.l.length k0) x.l
  len := by rintro F cs x ⟨a0, k0, rfl, _⟩; rfl
  one := by rintro F cs x ⟨a0, k0, rfl, _⟩; rfl
  mono := by rintro F F' cs x hF ⟨a0, k0, rfl, h0, h1⟩; exact ⟨a0, k0, rfl, h0, h1.mono hF⟩
theorem RdrT.vw {F : Fz} {get : Nat → Option AObj} {v : Value} {cf : Nat → List Value} {j : Nat} {l : List RdrT} (h : VW F get v l cf j) (hj : j < l.length) : HC get (sB v) (sO v + j * Rp.sz RdrT) [.slice (cA (cf j) 0) (l.getD j default).l.length (cK (cf j) 0), .int .i64 (l.getD j default).loops] := by
  obtain ⟨⟨a0, k0, h1, _⟩, h2⟩ := h.1 default hj
  rw [show cf j = _ from h1] at h2 ⊢; exact h2
theorem RdrT.fx {F : Fz} {get : Nat → Option AObj} {v : Value} {cf : Nat → List Value} {j : Nat} {l : List RdrT} (h : VW F get v l cf j) : in64 (l.getD j default).loops ∧ SR F (.slice (cA (cf j) 0) (l.getD j default).l.length (cK (cf j) 0)) (l.getD j default).l := by
  rcases Nat.lt_or_ge j l.length with hj | hj
  · obtain ⟨⟨a0, k0, g1, h0, h1⟩, _⟩ := h.1 default hj
    rw [show cf j = _ from g1]; exact ⟨h0, h1⟩
  · rw [getD_out hj, h.2 hj]; exact ⟨by decide, SR.nil⟩

def nodeV (op : Int) : Int := if op = 1 ∨ op = 2 ∨ op = 24 then 1 else if op = 22 ∨ op = 27 then 3 else if op = 6 ∨ op = 23 ∨ op = 28 then 4 else if op = 31 then 6 else if op = 30 then 12 else if op = 7 ∨ op = 8 then 20 else if op = 29 ∨ op = 20 ∨ op = 21 ∨ (4 ≤ op ∧ op ≤ 19) then 2 else 0

theorem nodeV_at {op k r : Int} (h : op = k) (h2 : r = nodeV k) : r = nodeV op := by rw [h]; exact h2
theorem nodeV_rng (op : Int) : 0 ≤ nodeV op ∧ nodeV op ≤ 20 := by unfold nodeV; (repeat' split) <;> omega
def pickV (n m : Int) : Int := bif decide (Int.tmod n m < 0) then Int.tmod n m + m else Int.tmod n m
theorem pick_rng {n m : Int} (hm : 0 < m) : 0 ≤ pickV n m ∧ pickV n m < m := by
  have h1 : -m < n.tmod m := Int.lt_tmod_of_pos n hm
  have h2 : n.tmod m < m := Int.tmod_lt_of_pos n hm
  unfold pickV
  by_cases hc : n.tmod m < 0
  · simp only [decide_eq_true hc, cond_true]; omega
  · simp only [decide_eq_false hc, cond_false]; omega
theorem pick_imp (n m : Int) : 0 < m → 0 ≤ pickV n m ∧ pickV n m < m := pick_rng

theorem pick_c (ex : FuncId) (n : Int) (m : Int) (H : Heap) (hm : 0 < m ∧ m < 9223372036854775808) : C Try.prog 0 (KX ex) 19 [(.int .i64 n), (.int .i64 m)] H fun v H' => ∃ (r : Int), H' = H ∧ v = .int .i64 r ∧ r = pickV n m := by
  have h1 : -m < n.tmod m := Int.lt_tmod_of_pos n hm.1
  have h2 : n.tmod m < m := Int.tmod_lt_of_pos n hm.1
  refine c_enter Try.func19 rfl rfl ?_
  refine wk_foc 1 rfl ?_
  refine wr 2 [] 4 4 [] [(4, (.int .i64 0))] trivial (by kernel_rfl) rfl fun gg1 => ?_
  refine wr 3 [] 5 7 [0] [(0, (.int .i64 (Int.tmod n m)))] (vA (show m ≠ 0 from by omega) trivial) (by kernel_rfl) rfl fun gg2 => ?_
  refine wr 1 [] 8 9 [] [(9, (.bool (decide (Int.tmod n m < 0))))] trivial (by kernel_rfl) rfl fun gg3 => ?_
  refine wk_if 0 2 (v := (decide (Int.tmod n m < 0))) rfl rfl rfl rfl (fun c4b => ?_) (fun c4b => ?_)
  · have c4 := c4b
    try simp only [BS] at c4
    refine wr 2 [] 10 12 [0] [(0, (.int .i64 ((Int.tmod n m) + m)))] (vA (vi (n := (Int.tmod n m) + m) (by omega)) trivial) (by kernel_rfl) rfl fun gg5 => ?_
    refine wr 1 [] 4 4 [13] [(4, (.int .i64 ((Int.tmod n m) + m)))] trivial (by kernel_rfl) rfl fun gg6 => ?_
    refine wk_ret ⟨.inr rfl, _, rfl, (Int.tmod n m) + m, rfl, rfl, (by simp only [pickV, c4b, cond_true, cond_false])⟩
  · have c4 := c4b
    try simp only [BS] at c4
    refine wr 1 [] 4 4 [13] [(4, (.int .i64 (Int.tmod n m)))] trivial (by kernel_rfl) rfl fun gg7 => ?_
    refine wk_ret ⟨.inr rfl, _, rfl, Int.tmod n m, rfl, rfl, (by simp only [pickV, c4b, cond_true, cond_false])⟩

theorem pick_c_q (ex : FuncId) (n : Int) (m : Int) (H : Heap) (hm : 0 < m ∧ m < 9223372036854775808) : C Try.prog 0 (KX ex) 19 [(.int .i64 n), (.int .i64 m)] H fun v H' => v = (.int .i64 (pickV n m)) ∧ H' = H :=
  cq (pick_c ex n m H hm) (by rintro _ _ ⟨_, rfl, rfl, rfl⟩; exact ⟨rfl, rfl⟩)

theorem node_c (ex : FuncId) {an_2 : Option Addr} {kn_2 : Nat} (n : NodeT) {F : Fz} {H : Heap} {R : List Fp} (hs : HS (.of H []) F H [] R) (hn_0 : in64 n.op) (hn_1 : in64 n.imm) (hn_2 : SR F (.slice an_2 n.kids.length kn_2) n.kids) : C Try.prog 0 (KX ex) 16 [(.agg ⟨[(.int .i64 n.op), (.int .i64 n.imm), (.slice an_2 n.kids.length kn_2)]⟩)] H fun v H' => ∃ (r : Int) (F' : Fz), Fz.le F F' ∧ HS (.of H []) F' H' [] R ∧ v = .int .i64 r ∧ r = nodeV n.op := by
  refine c_enter Try.func16 rfl rfl ?_
  refine wk_foc 1 rfl ?_
  refine wk_region ?_
  refine wo_rs (rs_box hs rfl rfl) rfl rfl ?_
  rintro _ H2 _ ⟨b1, rfl, hs2, _⟩
  have hs2 : HS (Base.of H []) F H2 [[(b1, .cells [(.int .i64 n.op), (.int .i64 n.imm), (.slice an_2 n.kids.length kn_2)] none false)]] R := hs2
  refine wa (.int .i64 0) rfl rfl rfl ?_
  refine wo_end 3 rfl ?_
  refine wr 4 [(1, .o (.int .i64 n.op))] 3 4 [] [(4, (.int .i64 n.op))] (vA (ql 3 0 (HS.hc hs2 (i := 0) rfl) rfl rfl) trivial) (by kernel_rfl) rfl fun gg3 => ?_
  refine wr 1 [] 5 6 [] [(5, (.bool (n.op == 1)))] trivial (by kernel_rfl) rfl fun gg4 => ?_
  refine wk_if 1 1 (v := (n.op == 1)) rfl rfl rfl rfl (fun c5b => ?_) (fun c5b => ?_)
  · have c5 := c5b
    try simp only [BS] at c5
    refine wk_ift 1 (v := (n.op == 1)) rfl c5b rfl rfl ?_
    refine wr 1 [] 2 2 [] [(2, (.int .i64 1))] trivial (by kernel_rfl) rfl fun gg6 => ?_
    refine wk_ret ⟨.inr rfl, _, rfl, 1, _, (Fz.le_refl _), (HS.forget hs2), rfl, (by first | exact nodeV_at (by assumption) (by decide) | (unfold nodeV; (repeat' split) <;> omega))⟩
  · have c5 := c5b
    try simp only [BS] at c5
    refine wr 1 [] 5 7 [] [(5, (.bool (n.op == 2)))] trivial (by kernel_rfl) rfl fun gg7 => ?_
    refine wk_if 1 0 (v := (n.op == 2)) rfl rfl rfl rfl (fun c8b => ?_) (fun c8b => ?_)
    · have c8 := c8b
      try simp only [BS] at c8
      refine wk_ift 1 (v := (n.op == 2)) rfl c8b rfl rfl ?_
      refine wr 1 [] 2 2 [] [(2, (.int .i64 1))] trivial (by kernel_rfl) rfl fun gg9 => ?_
      refine wk_ret ⟨.inr rfl, _, rfl, 1, _, (Fz.le_refl _), (HS.forget hs2), rfl, (by first | exact nodeV_at (by assumption) (by decide) | (unfold nodeV; (repeat' split) <;> omega))⟩
    · have c8 := c8b
      try simp only [BS] at c8
      refine wr 1 [] 5 8 [] [(5, (.bool (n.op == 24)))] trivial (by kernel_rfl) rfl fun gg10 => ?_
      refine wk_if 1 2 (v := (n.op == 24)) rfl rfl rfl rfl (fun c11b => ?_) (fun c11b => ?_)
      · have c11 := c11b
        try simp only [BS] at c11
        refine wr 1 [] 2 2 [] [(2, (.int .i64 1))] trivial (by kernel_rfl) rfl fun gg12 => ?_
        refine wk_ret ⟨.inr rfl, _, rfl, 1, _, (Fz.le_refl _), (HS.forget hs2), rfl, (by first | exact nodeV_at (by assumption) (by decide) | (unfold nodeV; (repeat' split) <;> omega))⟩
      · have c11 := c11b
        try simp only [BS] at c11
        refine wr 1 [] 9 10 [] [(9, (.bool (n.op == 20)))] trivial (by kernel_rfl) rfl fun gg13 => ?_
        refine wk_if 1 1 (v := (n.op == 20)) rfl rfl rfl rfl (fun c14b => ?_) (fun c14b => ?_)
        · have c14 := c14b
          try simp only [BS] at c14
          refine wk_ift 1 (v := (n.op == 20)) rfl c14b rfl rfl ?_
          refine wr 1 [] 2 2 [] [(2, (.int .i64 2))] trivial (by kernel_rfl) rfl fun gg15 => ?_
          refine wk_ret ⟨.inr rfl, _, rfl, 2, _, (Fz.le_refl _), (HS.forget hs2), rfl, (by first | exact nodeV_at (by assumption) (by decide) | (unfold nodeV; (repeat' split) <;> omega))⟩
        · have c14 := c14b
          try simp only [BS] at c14
          refine wr 1 [] 9 11 [] [(9, (.bool (n.op == 21)))] trivial (by kernel_rfl) rfl fun gg16 => ?_
          refine wk_if 1 1 (v := (n.op == 21)) rfl rfl rfl rfl (fun c17b => ?_) (fun c17b => ?_)
          · have c17 := c17b
            try simp only [BS] at c17
            refine wk_ift 1 (v := (n.op == 21)) rfl c17b rfl rfl ?_
            refine wr 1 [] 2 2 [] [(2, (.int .i64 2))] trivial (by kernel_rfl) rfl fun gg18 => ?_
            refine wk_ret ⟨.inr rfl, _, rfl, 2, _, (Fz.le_refl _), (HS.forget hs2), rfl, (by first | exact nodeV_at (by assumption) (by decide) | (unfold nodeV; (repeat' split) <;> omega))⟩
          · have c17 := c17b
            try simp only [BS] at c17
            refine wr 1 [] 9 12 [] [(9, (.bool (n.op == 4)))] trivial (by kernel_rfl) rfl fun gg19 => ?_
            refine wk_if 1 1 (v := (n.op == 4)) rfl rfl rfl rfl (fun c20b => ?_) (fun c20b => ?_)
            · have c20 := c20b
              try simp only [BS] at c20
              refine wk_ift 1 (v := (n.op == 4)) rfl c20b rfl rfl ?_
              refine wr 1 [] 2 2 [] [(2, (.int .i64 2))] trivial (by kernel_rfl) rfl fun gg21 => ?_
              refine wk_ret ⟨.inr rfl, _, rfl, 2, _, (Fz.le_refl _), (HS.forget hs2), rfl, (by first | exact nodeV_at (by assumption) (by decide) | (unfold nodeV; (repeat' split) <;> omega))⟩
            · have c20 := c20b
              try simp only [BS] at c20
              refine wr 1 [] 9 13 [] [(9, (.bool (n.op == 5)))] trivial (by kernel_rfl) rfl fun gg22 => ?_
              refine wk_if 1 1 (v := (n.op == 5)) rfl rfl rfl rfl (fun c23b => ?_) (fun c23b => ?_)
              · have c23 := c23b
                try simp only [BS] at c23
                refine wk_ift 1 (v := (n.op == 5)) rfl c23b rfl rfl ?_
                refine wr 1 [] 2 2 [] [(2, (.int .i64 2))] trivial (by kernel_rfl) rfl fun gg24 => ?_
                refine wk_ret ⟨.inr rfl, _, rfl, 2, _, (Fz.le_refl _), (HS.forget hs2), rfl, (by first | exact nodeV_at (by assumption) (by decide) | (unfold nodeV; (repeat' split) <;> omega))⟩
              · have c23 := c23b
                try simp only [BS] at c23
                refine wr 1 [] 9 14 [] [(9, (.bool (n.op == 9)))] trivial (by kernel_rfl) rfl fun gg25 => ?_
                refine wk_if 1 1 (v := (n.op == 9)) rfl rfl rfl rfl (fun c26b => ?_) (fun c26b => ?_)
                · have c26 := c26b
                  try simp only [BS] at c26
                  refine wk_ift 1 (v := (n.op == 9)) rfl c26b rfl rfl ?_
                  refine wr 1 [] 2 2 [] [(2, (.int .i64 2))] trivial (by kernel_rfl) rfl fun gg27 => ?_
                  refine wk_ret ⟨.inr rfl, _, rfl, 2, _, (Fz.le_refl _), (HS.forget hs2), rfl, (by first | exact nodeV_at (by assumption) (by decide) | (unfold nodeV; (repeat' split) <;> omega))⟩
                · have c26 := c26b
                  try simp only [BS] at c26
                  refine wr 1 [] 9 15 [] [(9, (.bool (n.op == 10)))] trivial (by kernel_rfl) rfl fun gg28 => ?_
                  refine wk_if 1 1 (v := (n.op == 10)) rfl rfl rfl rfl (fun c29b => ?_) (fun c29b => ?_)
                  · have c29 := c29b
                    try simp only [BS] at c29
                    refine wk_ift 1 (v := (n.op == 10)) rfl c29b rfl rfl ?_
                    refine wr 1 [] 2 2 [] [(2, (.int .i64 2))] trivial (by kernel_rfl) rfl fun gg30 => ?_
                    refine wk_ret ⟨.inr rfl, _, rfl, 2, _, (Fz.le_refl _), (HS.forget hs2), rfl, (by first | exact nodeV_at (by assumption) (by decide) | (unfold nodeV; (repeat' split) <;> omega))⟩
                  · have c29 := c29b
                    try simp only [BS] at c29
                    refine wr 1 [] 9 16 [] [(9, (.bool (n.op == 11)))] trivial (by kernel_rfl) rfl fun gg31 => ?_
                    refine wk_if 1 1 (v := (n.op == 11)) rfl rfl rfl rfl (fun c32b => ?_) (fun c32b => ?_)
                    · have c32 := c32b
                      try simp only [BS] at c32
                      refine wk_ift 1 (v := (n.op == 11)) rfl c32b rfl rfl ?_
                      refine wr 1 [] 2 2 [] [(2, (.int .i64 2))] trivial (by kernel_rfl) rfl fun gg33 => ?_
                      refine wk_ret ⟨.inr rfl, _, rfl, 2, _, (Fz.le_refl _), (HS.forget hs2), rfl, (by first | exact nodeV_at (by assumption) (by decide) | (unfold nodeV; (repeat' split) <;> omega))⟩
                    · have c32 := c32b
                      try simp only [BS] at c32
                      refine wr 1 [] 9 17 [] [(9, (.bool (n.op == 12)))] trivial (by kernel_rfl) rfl fun gg34 => ?_
                      refine wk_if 1 1 (v := (n.op == 12)) rfl rfl rfl rfl (fun c35b => ?_) (fun c35b => ?_)
                      · have c35 := c35b
                        try simp only [BS] at c35
                        refine wk_ift 1 (v := (n.op == 12)) rfl c35b rfl rfl ?_
                        refine wr 1 [] 2 2 [] [(2, (.int .i64 2))] trivial (by kernel_rfl) rfl fun gg36 => ?_
                        refine wk_ret ⟨.inr rfl, _, rfl, 2, _, (Fz.le_refl _), (HS.forget hs2), rfl, (by first | exact nodeV_at (by assumption) (by decide) | (unfold nodeV; (repeat' split) <;> omega))⟩
                      · have c35 := c35b
                        try simp only [BS] at c35
                        refine wr 1 [] 9 18 [] [(9, (.bool (n.op == 13)))] trivial (by kernel_rfl) rfl fun gg37 => ?_
                        refine wk_if 1 1 (v := (n.op == 13)) rfl rfl rfl rfl (fun c38b => ?_) (fun c38b => ?_)
                        · have c38 := c38b
                          try simp only [BS] at c38
                          refine wk_ift 1 (v := (n.op == 13)) rfl c38b rfl rfl ?_
                          refine wr 1 [] 2 2 [] [(2, (.int .i64 2))] trivial (by kernel_rfl) rfl fun gg39 => ?_
                          refine wk_ret ⟨.inr rfl, _, rfl, 2, _, (Fz.le_refl _), (HS.forget hs2), rfl, (by first | exact nodeV_at (by assumption) (by decide) | (unfold nodeV; (repeat' split) <;> omega))⟩
                        · have c38 := c38b
                          try simp only [BS] at c38
                          refine wr 1 [] 9 19 [] [(9, (.bool (n.op == 14)))] trivial (by kernel_rfl) rfl fun gg40 => ?_
                          refine wk_if 1 1 (v := (n.op == 14)) rfl rfl rfl rfl (fun c41b => ?_) (fun c41b => ?_)
                          · have c41 := c41b
                            try simp only [BS] at c41
                            refine wk_ift 1 (v := (n.op == 14)) rfl c41b rfl rfl ?_
                            refine wr 1 [] 2 2 [] [(2, (.int .i64 2))] trivial (by kernel_rfl) rfl fun gg42 => ?_
                            refine wk_ret ⟨.inr rfl, _, rfl, 2, _, (Fz.le_refl _), (HS.forget hs2), rfl, (by first | exact nodeV_at (by assumption) (by decide) | (unfold nodeV; (repeat' split) <;> omega))⟩
                          · have c41 := c41b
                            try simp only [BS] at c41
                            refine wr 1 [] 9 20 [] [(9, (.bool (n.op == 15)))] trivial (by kernel_rfl) rfl fun gg43 => ?_
                            refine wk_if 1 1 (v := (n.op == 15)) rfl rfl rfl rfl (fun c44b => ?_) (fun c44b => ?_)
                            · have c44 := c44b
                              try simp only [BS] at c44
                              refine wk_ift 1 (v := (n.op == 15)) rfl c44b rfl rfl ?_
                              refine wr 1 [] 2 2 [] [(2, (.int .i64 2))] trivial (by kernel_rfl) rfl fun gg45 => ?_
                              refine wk_ret ⟨.inr rfl, _, rfl, 2, _, (Fz.le_refl _), (HS.forget hs2), rfl, (by first | exact nodeV_at (by assumption) (by decide) | (unfold nodeV; (repeat' split) <;> omega))⟩
                            · have c44 := c44b
                              try simp only [BS] at c44
                              refine wr 1 [] 9 21 [] [(9, (.bool (n.op == 16)))] trivial (by kernel_rfl) rfl fun gg46 => ?_
                              refine wk_if 1 1 (v := (n.op == 16)) rfl rfl rfl rfl (fun c47b => ?_) (fun c47b => ?_)
                              · have c47 := c47b
                                try simp only [BS] at c47
                                refine wk_ift 1 (v := (n.op == 16)) rfl c47b rfl rfl ?_
                                refine wr 1 [] 2 2 [] [(2, (.int .i64 2))] trivial (by kernel_rfl) rfl fun gg48 => ?_
                                refine wk_ret ⟨.inr rfl, _, rfl, 2, _, (Fz.le_refl _), (HS.forget hs2), rfl, (by first | exact nodeV_at (by assumption) (by decide) | (unfold nodeV; (repeat' split) <;> omega))⟩
                              · have c47 := c47b
                                try simp only [BS] at c47
                                refine wr 1 [] 9 22 [] [(9, (.bool (n.op == 17)))] trivial (by kernel_rfl) rfl fun gg49 => ?_
                                refine wk_if 1 1 (v := (n.op == 17)) rfl rfl rfl rfl (fun c50b => ?_) (fun c50b => ?_)
                                · have c50 := c50b
                                  try simp only [BS] at c50
                                  refine wk_ift 1 (v := (n.op == 17)) rfl c50b rfl rfl ?_
                                  refine wr 1 [] 2 2 [] [(2, (.int .i64 2))] trivial (by kernel_rfl) rfl fun gg51 => ?_
                                  refine wk_ret ⟨.inr rfl, _, rfl, 2, _, (Fz.le_refl _), (HS.forget hs2), rfl, (by first | exact nodeV_at (by assumption) (by decide) | (unfold nodeV; (repeat' split) <;> omega))⟩
                                · have c50 := c50b
                                  try simp only [BS] at c50
                                  refine wr 1 [] 9 23 [] [(9, (.bool (n.op == 18)))] trivial (by kernel_rfl) rfl fun gg52 => ?_
                                  refine wk_if 1 1 (v := (n.op == 18)) rfl rfl rfl rfl (fun c53b => ?_) (fun c53b => ?_)
                                  · have c53 := c53b
                                    try simp only [BS] at c53
                                    refine wk_ift 1 (v := (n.op == 18)) rfl c53b rfl rfl ?_
                                    refine wr 1 [] 2 2 [] [(2, (.int .i64 2))] trivial (by kernel_rfl) rfl fun gg54 => ?_
                                    refine wk_ret ⟨.inr rfl, _, rfl, 2, _, (Fz.le_refl _), (HS.forget hs2), rfl, (by first | exact nodeV_at (by assumption) (by decide) | (unfold nodeV; (repeat' split) <;> omega))⟩
                                  · have c53 := c53b
                                    try simp only [BS] at c53
                                    refine wr 1 [] 9 24 [] [(9, (.bool (n.op == 19)))] trivial (by kernel_rfl) rfl fun gg55 => ?_
                                    refine wk_if 1 0 (v := (n.op == 19)) rfl rfl rfl rfl (fun c56b => ?_) (fun c56b => ?_)
                                    · have c56 := c56b
                                      try simp only [BS] at c56
                                      refine wk_ift 1 (v := (n.op == 19)) rfl c56b rfl rfl ?_
                                      refine wr 1 [] 2 2 [] [(2, (.int .i64 2))] trivial (by kernel_rfl) rfl fun gg57 => ?_
                                      refine wk_ret ⟨.inr rfl, _, rfl, 2, _, (Fz.le_refl _), (HS.forget hs2), rfl, (by first | exact nodeV_at (by assumption) (by decide) | (unfold nodeV; (repeat' split) <;> omega))⟩
                                    · have c56 := c56b
                                      try simp only [BS] at c56
                                      refine wr 1 [] 9 25 [] [(9, (.bool (n.op == 29)))] trivial (by kernel_rfl) rfl fun gg58 => ?_
                                      refine wk_if 1 2 (v := (n.op == 29)) rfl rfl rfl rfl (fun c59b => ?_) (fun c59b => ?_)
                                      · have c59 := c59b
                                        try simp only [BS] at c59
                                        refine wr 1 [] 2 2 [] [(2, (.int .i64 2))] trivial (by kernel_rfl) rfl fun gg60 => ?_
                                        refine wk_ret ⟨.inr rfl, _, rfl, 2, _, (Fz.le_refl _), (HS.forget hs2), rfl, (by first | exact nodeV_at (by assumption) (by decide) | (unfold nodeV; (repeat' split) <;> omega))⟩
                                      · have c59 := c59b
                                        try simp only [BS] at c59
                                        refine wr 1 [] 26 27 [] [(26, (.bool (n.op == 22)))] trivial (by kernel_rfl) rfl fun gg61 => ?_
                                        refine wk_if 1 0 (v := (n.op == 22)) rfl rfl rfl rfl (fun c62b => ?_) (fun c62b => ?_)
                                        · have c62 := c62b
                                          try simp only [BS] at c62
                                          refine wk_ift 1 (v := (n.op == 22)) rfl c62b rfl rfl ?_
                                          refine wr 1 [] 2 2 [] [(2, (.int .i64 3))] trivial (by kernel_rfl) rfl fun gg63 => ?_
                                          refine wk_ret ⟨.inr rfl, _, rfl, 3, _, (Fz.le_refl _), (HS.forget hs2), rfl, (by first | exact nodeV_at (by assumption) (by decide) | (unfold nodeV; (repeat' split) <;> omega))⟩
                                        · have c62 := c62b
                                          try simp only [BS] at c62
                                          refine wr 1 [] 26 28 [] [(26, (.bool (n.op == 27)))] trivial (by kernel_rfl) rfl fun gg64 => ?_
                                          refine wk_if 1 2 (v := (n.op == 27)) rfl rfl rfl rfl (fun c65b => ?_) (fun c65b => ?_)
                                          · have c65 := c65b
                                            try simp only [BS] at c65
                                            refine wr 1 [] 2 2 [] [(2, (.int .i64 3))] trivial (by kernel_rfl) rfl fun gg66 => ?_
                                            refine wk_ret ⟨.inr rfl, _, rfl, 3, _, (Fz.le_refl _), (HS.forget hs2), rfl, (by first | exact nodeV_at (by assumption) (by decide) | (unfold nodeV; (repeat' split) <;> omega))⟩
                                          · have c65 := c65b
                                            try simp only [BS] at c65
                                            refine wr 1 [] 29 30 [] [(29, (.bool (n.op == 6)))] trivial (by kernel_rfl) rfl fun gg67 => ?_
                                            refine wk_if 1 1 (v := (n.op == 6)) rfl rfl rfl rfl (fun c68b => ?_) (fun c68b => ?_)
                                            · have c68 := c68b
                                              try simp only [BS] at c68
                                              refine wk_ift 1 (v := (n.op == 6)) rfl c68b rfl rfl ?_
                                              refine wr 1 [] 2 2 [] [(2, (.int .i64 4))] trivial (by kernel_rfl) rfl fun gg69 => ?_
                                              refine wk_ret ⟨.inr rfl, _, rfl, 4, _, (Fz.le_refl _), (HS.forget hs2), rfl, (by first | exact nodeV_at (by assumption) (by decide) | (unfold nodeV; (repeat' split) <;> omega))⟩
                                            · have c68 := c68b
                                              try simp only [BS] at c68
                                              refine wr 1 [] 29 31 [] [(29, (.bool (n.op == 23)))] trivial (by kernel_rfl) rfl fun gg70 => ?_
                                              refine wk_if 1 0 (v := (n.op == 23)) rfl rfl rfl rfl (fun c71b => ?_) (fun c71b => ?_)
                                              · have c71 := c71b
                                                try simp only [BS] at c71
                                                refine wk_ift 1 (v := (n.op == 23)) rfl c71b rfl rfl ?_
                                                refine wr 1 [] 2 2 [] [(2, (.int .i64 4))] trivial (by kernel_rfl) rfl fun gg72 => ?_
                                                refine wk_ret ⟨.inr rfl, _, rfl, 4, _, (Fz.le_refl _), (HS.forget hs2), rfl, (by first | exact nodeV_at (by assumption) (by decide) | (unfold nodeV; (repeat' split) <;> omega))⟩
                                              · have c71 := c71b
                                                try simp only [BS] at c71
                                                refine wr 1 [] 29 32 [] [(29, (.bool (n.op == 28)))] trivial (by kernel_rfl) rfl fun gg73 => ?_
                                                refine wk_if 1 1 (v := (n.op == 28)) rfl rfl rfl rfl (fun c74b => ?_) (fun c74b => ?_)
                                                · have c74 := c74b
                                                  try simp only [BS] at c74
                                                  refine wr 1 [] 2 2 [] [(2, (.int .i64 4))] trivial (by kernel_rfl) rfl fun gg75 => ?_
                                                  refine wk_ret ⟨.inr rfl, _, rfl, 4, _, (Fz.le_refl _), (HS.forget hs2), rfl, (by first | exact nodeV_at (by assumption) (by decide) | (unfold nodeV; (repeat' split) <;> omega))⟩
                                                · have c74 := c74b
                                                  try simp only [BS] at c74
                                                  refine wr 1 [] 33 34 [] [(33, (.bool (n.op == 31)))] trivial (by kernel_rfl) rfl fun gg76 => ?_
                                                  refine wk_if 1 1 (v := (n.op == 31)) rfl rfl rfl rfl (fun c77b => ?_) (fun c77b => ?_)
                                                  · have c77 := c77b
                                                    try simp only [BS] at c77
                                                    refine wr 1 [] 2 2 [] [(2, (.int .i64 6))] trivial (by kernel_rfl) rfl fun gg78 => ?_
                                                    refine wk_ret ⟨.inr rfl, _, rfl, 6, _, (Fz.le_refl _), (HS.forget hs2), rfl, (by first | exact nodeV_at (by assumption) (by decide) | (unfold nodeV; (repeat' split) <;> omega))⟩
                                                  · have c77 := c77b
                                                    try simp only [BS] at c77
                                                    refine wr 1 [] 35 36 [] [(35, (.bool (n.op == 30)))] trivial (by kernel_rfl) rfl fun gg79 => ?_
                                                    refine wk_if 1 2 (v := (n.op == 30)) rfl rfl rfl rfl (fun c80b => ?_) (fun c80b => ?_)
                                                    · have c80 := c80b
                                                      try simp only [BS] at c80
                                                      refine wr 1 [] 2 2 [] [(2, (.int .i64 12))] trivial (by kernel_rfl) rfl fun gg81 => ?_
                                                      refine wk_ret ⟨.inr rfl, _, rfl, 12, _, (Fz.le_refl _), (HS.forget hs2), rfl, (by first | exact nodeV_at (by assumption) (by decide) | (unfold nodeV; (repeat' split) <;> omega))⟩
                                                    · have c80 := c80b
                                                      try simp only [BS] at c80
                                                      refine wr 1 [] 37 38 [] [(37, (.bool (n.op == 7)))] trivial (by kernel_rfl) rfl fun gg82 => ?_
                                                      refine wk_if 1 0 (v := (n.op == 7)) rfl rfl rfl rfl (fun c83b => ?_) (fun c83b => ?_)
                                                      · have c83 := c83b
                                                        try simp only [BS] at c83
                                                        refine wk_ift 1 (v := (n.op == 7)) rfl c83b rfl rfl ?_
                                                        refine wr 1 [] 2 2 [] [(2, (.int .i64 20))] trivial (by kernel_rfl) rfl fun gg84 => ?_
                                                        refine wk_ret ⟨.inr rfl, _, rfl, 20, _, (Fz.le_refl _), (HS.forget hs2), rfl, (by first | exact nodeV_at (by assumption) (by decide) | (unfold nodeV; (repeat' split) <;> omega))⟩
                                                      · have c83 := c83b
                                                        try simp only [BS] at c83
                                                        refine wr 1 [] 37 39 [] [(37, (.bool (n.op == 8)))] trivial (by kernel_rfl) rfl fun gg85 => ?_
                                                        refine wk_if 1 3 (v := (n.op == 8)) rfl rfl rfl rfl (fun c86b => ?_) (fun c86b => ?_)
                                                        · have c86 := c86b
                                                          try simp only [BS] at c86
                                                          refine wr 1 [] 2 2 [] [(2, (.int .i64 20))] trivial (by kernel_rfl) rfl fun gg87 => ?_
                                                          refine wk_ret ⟨.inr rfl, _, rfl, 20, _, (Fz.le_refl _), (HS.forget hs2), rfl, (by first | exact nodeV_at (by assumption) (by decide) | (unfold nodeV; (repeat' split) <;> omega))⟩
                                                        · have c86 := c86b
                                                          try simp only [BS] at c86
                                                          refine wr 1 [] 2 2 [] [(2, (.int .i64 0))] trivial (by kernel_rfl) rfl fun gg88 => ?_
                                                          refine wk_ret ⟨.inr rfl, _, rfl, 0, _, (Fz.le_refl _), (HS.forget hs2), rfl, (by first | exact nodeV_at (by assumption) (by decide) | (unfold nodeV; (repeat' split) <;> omega))⟩

theorem refNode_c (ex : FuncId) {an_2 : Option Addr} {kn_2 : Nat} (n : NodeT) {F : Fz} {H : Heap} {R : List Fp} (hs : HS (.of H []) F H [] R) (hn_0 : in64 n.op) (hn_1 : in64 n.imm) (hn_2 : SR F (.slice an_2 n.kids.length kn_2) n.kids) : C Try.prog 0 (KX ex) 20 [(.agg ⟨[(.int .i64 n.op), (.int .i64 n.imm), (.slice an_2 n.kids.length kn_2)]⟩)] H fun v H' => ∃ (r : Int) (F' : Fz), Fz.le F F' ∧ HS (.of H []) F' H' [] R ∧ v = .int .i64 r ∧ r = nodeV n.op := by
  refine c_enter Try.func20 rfl rfl ?_
  refine wk_foc 1 rfl ?_
  refine wk_region ?_
  refine wo_rs (rs_box hs rfl rfl) rfl rfl ?_
  rintro _ H2 _ ⟨b1, rfl, hs2, _⟩
  have hs2 : HS (Base.of H []) F H2 [[(b1, .cells [(.int .i64 n.op), (.int .i64 n.imm), (.slice an_2 n.kids.length kn_2)] none false)]] R := hs2
  refine wa (.int .i64 0) rfl rfl rfl ?_
  refine wo_end 3 rfl ?_
  refine wr 4 [(1, .o (.int .i64 n.op))] 3 4 [] [(4, (.int .i64 n.op))] (vA (ql 3 0 (HS.hc hs2 (i := 0) rfl) rfl rfl) trivial) (by kernel_rfl) rfl fun gg3 => ?_
  refine wr 1 [] 5 6 [] [(5, (.bool (n.op == 1)))] trivial (by kernel_rfl) rfl fun gg4 => ?_
  refine wk_if 1 1 (v := (n.op == 1)) rfl rfl rfl rfl (fun c5b => ?_) (fun c5b => ?_)
  · have c5 := c5b
    try simp only [BS] at c5
    refine wk_ift 1 (v := (n.op == 1)) rfl c5b rfl rfl ?_
    refine wr 1 [] 2 2 [] [(2, (.int .i64 1))] trivial (by kernel_rfl) rfl fun gg6 => ?_
    refine wk_ret ⟨.inr rfl, _, rfl, 1, _, (Fz.le_refl _), (HS.forget hs2), rfl, (by first | exact nodeV_at (by assumption) (by decide) | (unfold nodeV; (repeat' split) <;> omega))⟩
  · have c5 := c5b
    try simp only [BS] at c5
    refine wr 1 [] 5 7 [] [(5, (.bool (n.op == 2)))] trivial (by kernel_rfl) rfl fun gg7 => ?_
    refine wk_if 1 0 (v := (n.op == 2)) rfl rfl rfl rfl (fun c8b => ?_) (fun c8b => ?_)
    · have c8 := c8b
      try simp only [BS] at c8
      refine wk_ift 1 (v := (n.op == 2)) rfl c8b rfl rfl ?_
      refine wr 1 [] 2 2 [] [(2, (.int .i64 1))] trivial (by kernel_rfl) rfl fun gg9 => ?_
      refine wk_ret ⟨.inr rfl, _, rfl, 1, _, (Fz.le_refl _), (HS.forget hs2), rfl, (by first | exact nodeV_at (by assumption) (by decide) | (unfold nodeV; (repeat' split) <;> omega))⟩
    · have c8 := c8b
      try simp only [BS] at c8
      refine wr 1 [] 5 8 [] [(5, (.bool (n.op == 24)))] trivial (by kernel_rfl) rfl fun gg10 => ?_
      refine wk_if 1 2 (v := (n.op == 24)) rfl rfl rfl rfl (fun c11b => ?_) (fun c11b => ?_)
      · have c11 := c11b
        try simp only [BS] at c11
        refine wr 1 [] 2 2 [] [(2, (.int .i64 1))] trivial (by kernel_rfl) rfl fun gg12 => ?_
        refine wk_ret ⟨.inr rfl, _, rfl, 1, _, (Fz.le_refl _), (HS.forget hs2), rfl, (by first | exact nodeV_at (by assumption) (by decide) | (unfold nodeV; (repeat' split) <;> omega))⟩
      · have c11 := c11b
        try simp only [BS] at c11
        refine wr 1 [] 9 10 [] [(9, (.bool (n.op == 22)))] trivial (by kernel_rfl) rfl fun gg13 => ?_
        refine wk_if 1 0 (v := (n.op == 22)) rfl rfl rfl rfl (fun c14b => ?_) (fun c14b => ?_)
        · have c14 := c14b
          try simp only [BS] at c14
          refine wk_ift 1 (v := (n.op == 22)) rfl c14b rfl rfl ?_
          refine wr 1 [] 2 2 [] [(2, (.int .i64 3))] trivial (by kernel_rfl) rfl fun gg15 => ?_
          refine wk_ret ⟨.inr rfl, _, rfl, 3, _, (Fz.le_refl _), (HS.forget hs2), rfl, (by first | exact nodeV_at (by assumption) (by decide) | (unfold nodeV; (repeat' split) <;> omega))⟩
        · have c14 := c14b
          try simp only [BS] at c14
          refine wr 1 [] 9 11 [] [(9, (.bool (n.op == 27)))] trivial (by kernel_rfl) rfl fun gg16 => ?_
          refine wk_if 1 2 (v := (n.op == 27)) rfl rfl rfl rfl (fun c17b => ?_) (fun c17b => ?_)
          · have c17 := c17b
            try simp only [BS] at c17
            refine wr 1 [] 2 2 [] [(2, (.int .i64 3))] trivial (by kernel_rfl) rfl fun gg18 => ?_
            refine wk_ret ⟨.inr rfl, _, rfl, 3, _, (Fz.le_refl _), (HS.forget hs2), rfl, (by first | exact nodeV_at (by assumption) (by decide) | (unfold nodeV; (repeat' split) <;> omega))⟩
          · have c17 := c17b
            try simp only [BS] at c17
            refine wr 1 [] 12 13 [] [(12, (.bool (n.op == 6)))] trivial (by kernel_rfl) rfl fun gg19 => ?_
            refine wk_if 1 1 (v := (n.op == 6)) rfl rfl rfl rfl (fun c20b => ?_) (fun c20b => ?_)
            · have c20 := c20b
              try simp only [BS] at c20
              refine wk_ift 1 (v := (n.op == 6)) rfl c20b rfl rfl ?_
              refine wr 1 [] 2 2 [] [(2, (.int .i64 4))] trivial (by kernel_rfl) rfl fun gg21 => ?_
              refine wk_ret ⟨.inr rfl, _, rfl, 4, _, (Fz.le_refl _), (HS.forget hs2), rfl, (by first | exact nodeV_at (by assumption) (by decide) | (unfold nodeV; (repeat' split) <;> omega))⟩
            · have c20 := c20b
              try simp only [BS] at c20
              refine wr 1 [] 12 14 [] [(12, (.bool (n.op == 23)))] trivial (by kernel_rfl) rfl fun gg22 => ?_
              refine wk_if 1 0 (v := (n.op == 23)) rfl rfl rfl rfl (fun c23b => ?_) (fun c23b => ?_)
              · have c23 := c23b
                try simp only [BS] at c23
                refine wk_ift 1 (v := (n.op == 23)) rfl c23b rfl rfl ?_
                refine wr 1 [] 2 2 [] [(2, (.int .i64 4))] trivial (by kernel_rfl) rfl fun gg24 => ?_
                refine wk_ret ⟨.inr rfl, _, rfl, 4, _, (Fz.le_refl _), (HS.forget hs2), rfl, (by first | exact nodeV_at (by assumption) (by decide) | (unfold nodeV; (repeat' split) <;> omega))⟩
              · have c23 := c23b
                try simp only [BS] at c23
                refine wr 1 [] 12 15 [] [(12, (.bool (n.op == 28)))] trivial (by kernel_rfl) rfl fun gg25 => ?_
                refine wk_if 1 1 (v := (n.op == 28)) rfl rfl rfl rfl (fun c26b => ?_) (fun c26b => ?_)
                · have c26 := c26b
                  try simp only [BS] at c26
                  refine wr 1 [] 2 2 [] [(2, (.int .i64 4))] trivial (by kernel_rfl) rfl fun gg27 => ?_
                  refine wk_ret ⟨.inr rfl, _, rfl, 4, _, (Fz.le_refl _), (HS.forget hs2), rfl, (by first | exact nodeV_at (by assumption) (by decide) | (unfold nodeV; (repeat' split) <;> omega))⟩
                · have c26 := c26b
                  try simp only [BS] at c26
                  refine wr 1 [] 16 17 [] [(16, (.bool (n.op == 31)))] trivial (by kernel_rfl) rfl fun gg28 => ?_
                  refine wk_if 1 1 (v := (n.op == 31)) rfl rfl rfl rfl (fun c29b => ?_) (fun c29b => ?_)
                  · have c29 := c29b
                    try simp only [BS] at c29
                    refine wr 1 [] 2 2 [] [(2, (.int .i64 6))] trivial (by kernel_rfl) rfl fun gg30 => ?_
                    refine wk_ret ⟨.inr rfl, _, rfl, 6, _, (Fz.le_refl _), (HS.forget hs2), rfl, (by first | exact nodeV_at (by assumption) (by decide) | (unfold nodeV; (repeat' split) <;> omega))⟩
                  · have c29 := c29b
                    try simp only [BS] at c29
                    refine wr 1 [] 18 19 [] [(18, (.bool (n.op == 30)))] trivial (by kernel_rfl) rfl fun gg31 => ?_
                    refine wk_if 1 2 (v := (n.op == 30)) rfl rfl rfl rfl (fun c32b => ?_) (fun c32b => ?_)
                    · have c32 := c32b
                      try simp only [BS] at c32
                      refine wr 1 [] 2 2 [] [(2, (.int .i64 12))] trivial (by kernel_rfl) rfl fun gg33 => ?_
                      refine wk_ret ⟨.inr rfl, _, rfl, 12, _, (Fz.le_refl _), (HS.forget hs2), rfl, (by first | exact nodeV_at (by assumption) (by decide) | (unfold nodeV; (repeat' split) <;> omega))⟩
                    · have c32 := c32b
                      try simp only [BS] at c32
                      refine wr 1 [] 20 21 [] [(20, (.bool (n.op == 7)))] trivial (by kernel_rfl) rfl fun gg34 => ?_
                      refine wk_if 1 0 (v := (n.op == 7)) rfl rfl rfl rfl (fun c35b => ?_) (fun c35b => ?_)
                      · have c35 := c35b
                        try simp only [BS] at c35
                        refine wk_ift 1 (v := (n.op == 7)) rfl c35b rfl rfl ?_
                        refine wr 1 [] 2 2 [] [(2, (.int .i64 20))] trivial (by kernel_rfl) rfl fun gg36 => ?_
                        refine wk_ret ⟨.inr rfl, _, rfl, 20, _, (Fz.le_refl _), (HS.forget hs2), rfl, (by first | exact nodeV_at (by assumption) (by decide) | (unfold nodeV; (repeat' split) <;> omega))⟩
                      · have c35 := c35b
                        try simp only [BS] at c35
                        refine wr 1 [] 20 22 [] [(20, (.bool (n.op == 8)))] trivial (by kernel_rfl) rfl fun gg37 => ?_
                        refine wk_if 1 2 (v := (n.op == 8)) rfl rfl rfl rfl (fun c38b => ?_) (fun c38b => ?_)
                        · have c38 := c38b
                          try simp only [BS] at c38
                          refine wr 1 [] 2 2 [] [(2, (.int .i64 20))] trivial (by kernel_rfl) rfl fun gg39 => ?_
                          refine wk_ret ⟨.inr rfl, _, rfl, 20, _, (Fz.le_refl _), (HS.forget hs2), rfl, (by first | exact nodeV_at (by assumption) (by decide) | (unfold nodeV; (repeat' split) <;> omega))⟩
                        · have c38 := c38b
                          try simp only [BS] at c38
                          refine wr 1 [] 23 24 [] [(23, (.bool (n.op == 29)))] trivial (by kernel_rfl) rfl fun gg40 => ?_
                          refine wk_if 1 1 (v := (n.op == 29)) rfl rfl rfl rfl (fun c41b => ?_) (fun c41b => ?_)
                          · have c41 := c41b
                            try simp only [BS] at c41
                            refine wk_ift 1 (v := (n.op == 29)) rfl c41b rfl rfl ?_
                            refine wr 1 [] 2 2 [] [(2, (.int .i64 2))] trivial (by kernel_rfl) rfl fun gg42 => ?_
                            refine wk_ret ⟨.inr rfl, _, rfl, 2, _, (Fz.le_refl _), (HS.forget hs2), rfl, (by first | exact nodeV_at (by assumption) (by decide) | (unfold nodeV; (repeat' split) <;> omega))⟩
                          · have c41 := c41b
                            try simp only [BS] at c41
                            refine wr 1 [] 23 25 [] [(23, (.bool (n.op == 20)))] trivial (by kernel_rfl) rfl fun gg43 => ?_
                            refine wk_if 1 0 (v := (n.op == 20)) rfl rfl rfl rfl (fun c44b => ?_) (fun c44b => ?_)
                            · have c44 := c44b
                              try simp only [BS] at c44
                              refine wk_ift 1 (v := (n.op == 20)) rfl c44b rfl rfl ?_
                              refine wr 1 [] 2 2 [] [(2, (.int .i64 2))] trivial (by kernel_rfl) rfl fun gg45 => ?_
                              refine wk_ret ⟨.inr rfl, _, rfl, 2, _, (Fz.le_refl _), (HS.forget hs2), rfl, (by first | exact nodeV_at (by assumption) (by decide) | (unfold nodeV; (repeat' split) <;> omega))⟩
                            · have c44 := c44b
                              try simp only [BS] at c44
                              refine wr 1 [] 23 26 [] [(23, (.bool (n.op == 21)))] trivial (by kernel_rfl) rfl fun gg46 => ?_
                              refine wk_if 1 4 (v := (n.op == 21)) rfl rfl rfl rfl (fun c47b => ?_) (fun c47b => ?_)
                              · have c47 := c47b
                                try simp only [BS] at c47
                                refine wr 1 [] 2 2 [] [(2, (.int .i64 2))] trivial (by kernel_rfl) rfl fun gg48 => ?_
                                refine wk_ret ⟨.inr rfl, _, rfl, 2, _, (Fz.le_refl _), (HS.forget hs2), rfl, (by first | exact nodeV_at (by assumption) (by decide) | (unfold nodeV; (repeat' split) <;> omega))⟩
                              · have c47 := c47b
                                try simp only [BS] at c47
                                refine wr 1 [(1, .o (.int .i64 n.op)), (5, .o (.int .i64 n.op))] 27 34 [] [(34, (.bool ((decide ((4 : Int) ≤ n.op)) && (decide (n.op ≤ 19)))))] (vA (ql 3 0 (HS.hc hs2 (i := 0) rfl) rfl rfl) (vA (fun (g1 : (decide ((4 : Int) ≤ n.op)) = true) => (ql 3 0 (HS.hc hs2 (i := 0) rfl) rfl rfl)) trivial)) (by kernel_rfl) rfl fun gg49 => ?_
                                refine wk_if 1 2 (v := ((decide ((4 : Int) ≤ n.op)) && (decide (n.op ≤ 19)))) rfl rfl rfl rfl (fun c50b => ?_) (fun c50b => ?_)
                                · have c50 := c50b
                                  try simp only [BS] at c50
                                  refine wr 1 [] 2 2 [] [(2, (.int .i64 2))] trivial (by kernel_rfl) rfl fun gg51 => ?_
                                  refine wk_ret ⟨.inr rfl, _, rfl, 2, _, (Fz.le_refl _), (HS.forget hs2), rfl, (by first | exact nodeV_at (by assumption) (by decide) | (unfold nodeV; (repeat' split) <;> omega))⟩
                                · have c50 := c50b
                                  try simp only [BS] at c50
                                  refine wr 1 [] 2 2 [] [(2, (.int .i64 0))] trivial (by kernel_rfl) rfl fun gg52 => ?_
                                  refine wk_ret ⟨.inr rfl, _, rfl, 0, _, (Fz.le_refl _), (HS.forget hs2), rfl, (by first | exact nodeV_at (by assumption) (by decide) | (unfold nodeV; (repeat' split) <;> omega))⟩
end Go.Proofs.Ytcakpkdeojhacaa.k1
