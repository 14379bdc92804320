/-
  Instructions of virtual code: the table, their description, which are allowed; the program and the reference, function by function, each by a symbolic run. No condition but that the table lies as laid.
-/
import Derived.Test.YtlabedbmgmfbaaaDoorZRD
import Derived.Test.YtlabedbmgmfbaaaDoorChecked
noncomputable section
namespace Go.Proofs.YtlabedbmgmfbaaaDoor.m1
open Go.R
set_option maxRecDepth 10000
set_option linter.unusedVariables false
theorem ql {H : Heap} {b o : Nat} {cs : List Value} {w : Value} (t : TypeId) (i : Nat) (hc : HC H.get b o cs) (ha : aggOf Tryd.prog t = some false) (hv : cs[i]? = some w) : LDv Tryd.prog H t (.pointer (some ⟨b, o + i, none⟩)) w := ld1 hc ha hv
theorem qn {H : Heap} {b o : Nat} {cs l : List Value} (t : TypeId) (i n : Nat) (hc : HC H.get b o cs) (ha : aggOf Tryd.prog t = some true) (hs : szOf Tryd.prog t = some n) (hn : Nat.ble (i + n) cs.length = true) (hl : takeL (dropL cs i) n = l) : LDv Tryd.prog H t (.pointer (some ⟨b, o + i, none⟩)) (.agg ⟨l⟩) := ldN hc ha hs hn hl
structure InfT where
  name : Str
  form : Int
  ra : Bool
  wa : Bool
  rb : Bool
  mt : Bool
  words : Int
  deriving Inhabited
instance : Rp InfT where
  sz := 7
  rep F cs x := cs = [.string ⟨⟨x.name.b⟩⟩, .int .i64 x.form, .bool x.ra, .bool x.wa, .bool x.rb, .bool x.mt, .int .i64 x.words] ∧ in64 x.form ∧ in64 x.words
  len := by rintro F cs x ⟨rfl, _⟩; rfl
  one := by rintro F cs x ⟨rfl, _⟩; rfl
  mono := by intro F F' cs x _ h; exact h
theorem InfT.vw {F : Fz} {get : Nat → Option AObj} {v : Value} {cf : Nat → List Value} {j : Nat} {l : List InfT} (h : VW F get v l cf j) (hj : j < l.length) : HC get (sB v) (sO v + j * Rp.sz InfT) [.string ⟨⟨(l.getD j default).name.b⟩⟩, .int .i64 (l.getD j default).form, .bool (l.getD j default).ra, .bool (l.getD j default).wa, .bool (l.getD j default).rb, .bool (l.getD j default).mt, .int .i64 (l.getD j default).words] := by
  obtain ⟨⟨h1, _⟩, h2⟩ := h.1 default hj
  rw [show cf j = _ from h1] at h2; exact h2
theorem InfT.fx {F : Fz} {get : Nat → Option AObj} {v : Value} {cf : Nat → List Value} {j : Nat} {l : List InfT} (h : VW F get v l cf j) : in64 (l.getD j default).form ∧ in64 (l.getD j default).words := by
  rcases Nat.lt_or_ge j l.length with hj | hj
  · obtain ⟨⟨g1, h0, h1⟩, _⟩ := h.1 default hj
    exact ⟨h0, h1⟩
  · rw [getD_out hj]; exact ⟨by decide, by decide⟩

structure InsT where
  op : Int
  a : Int
  b : Int
  c : Int
  n : Int
  deriving Inhabited, DecidableEq
instance : Rp InsT where
  sz := 5
  rep F cs x := cs = [.int .i64 x.op, .int .i64 x.a, .int .i64 x.b, .int .i64 x.c, .int .i64 x.n] ∧ in64 x.op ∧ in64 x.a ∧ in64 x.b ∧ in64 x.c ∧ in64 x.n
  len := by rintro F cs x ⟨rfl, _⟩; rfl
  one := by rintro F cs x ⟨rfl, _⟩; rfl
  mono := by intro F F' cs x _ h; exact h
structure VInT where
  i : InsT
  args : (List Int)
  deriving Inhabited, DecidableEq
instance : Rp VInT where
  sz := 6
  rep F cs x := ∃ a5 k5, cs = [.int .i64 x.i.op, .int .i64 x.i.a, .int .i64 x.i.b, .int .i64 x.i.c, .int .i64 x.i.n, .slice a5 x.args.length k5] ∧ in64 x.i.op ∧ in64 x.i.a ∧ in64 x.i.b ∧ in64 x.i.c ∧ in64 x.i.n ∧ SR F (.slice a5 x.args.length k5) x.args
  len := by rintro F cs x ⟨a5, k5, rfl, _⟩; rfl
  one := by rintro F cs x ⟨a5, k5, rfl, _⟩; rfl
  mono := by rintro F F' cs x hF ⟨a5, k5, rfl, h0, h1, h2, h3, h4, h5⟩; exact ⟨a5, k5, rfl, h0, h1, h2, h3, h4, h5.mono hF⟩
theorem VInT.vw {F : Fz} {get : Nat → Option AObj} {v : Value} {cf : Nat → List Value} {j : Nat} {l : List VInT} (h : VW F get v l cf j) (hj : j < l.length) : HC get (sB v) (sO v + j * Rp.sz VInT) [.int .i64 (l.getD j default).i.op, .int .i64 (l.getD j default).i.a, .int .i64 (l.getD j default).i.b, .int .i64 (l.getD j default).i.c, .int .i64 (l.getD j default).i.n, .slice (cA (cf j) 5) (l.getD j default).args.length (cK (cf j) 5)] := by
  obtain ⟨⟨a5, k5, h1, _⟩, h2⟩ := h.1 default hj
  rw [show cf j = _ from h1] at h2 ⊢; exact h2
theorem VInT.fx {F : Fz} {get : Nat → Option AObj} {v : Value} {cf : Nat → List Value} {j : Nat} {l : List VInT} (h : VW F get v l cf j) : in64 (l.getD j default).i.op ∧ in64 (l.getD j default).i.a ∧ in64 (l.getD j default).i.b ∧ in64 (l.getD j default).i.c ∧ in64 (l.getD j default).i.n ∧ SR F (.slice (cA (cf j) 5) (l.getD j default).args.length (cK (cf j) 5)) (l.getD j default).args := by
  rcases Nat.lt_or_ge j l.length with hj | hj
  · obtain ⟨⟨a5, k5, g1, h0, h1, h2, h3, h4, h5⟩, _⟩ := h.1 default hj
    rw [show cf j = _ from g1]; exact ⟨h0, h1, h2, h3, h4, h5⟩
  · rw [getD_out hj, h.2 hj]; exact ⟨by decide, by decide, by decide, by decide, by decide, SR.nil⟩

structure BlkT where
  ins : (List VInT)
  fin : Int
  reg : Int
  tgt : Int
  els : Int
  deriving Inhabited, DecidableEq
instance : Rp BlkT where
  sz := 5
  rep F cs x := ∃ a0 k0, cs = [.slice a0 x.ins.length k0, .int .i64 x.fin, .int .i64 x.reg, .int .i64 x.tgt, .int .i64 x.els] ∧ in64 x.fin ∧ in64 x.reg ∧ in64 x.tgt ∧ in64 x.els ∧ SR F (.slice a0 x.ins.length k0) x.ins
  len := by rintro F cs x ⟨a0, k0, rfl, _⟩; rfl
  one := by rintro F cs x ⟨a0, k0, rfl, _⟩; rfl
  mono := by rintro F F' cs x hF ⟨a0, k0, rfl, h0, h1, h2, h3, h4⟩; exact ⟨a0, k0, rfl, h0, h1, h2, h3, h4.mono hF⟩
theorem BlkT.vw {F : Fz} {get : Nat → Option AObj} {v : Value} {cf : Nat → List Value} {j : Nat} {l : List BlkT} (h : VW F get v l cf j) (hj : j < l.length) : HC get (sB v) (sO v + j * Rp.sz BlkT) [.slice (cA (cf j) 0) (l.getD j default).ins.length (cK (cf j) 0), .int .i64 (l.getD j default).fin, .int .i64 (l.getD j default).reg, .int .i64 (l.getD j default).tgt, .int .i64 (l.getD j default).els] := by
  obtain ⟨⟨a0, k0, h1, _⟩, h2⟩ := h.1 default hj
  rw [show cf j = _ from h1] at h2 ⊢; exact h2
theorem BlkT.fx {F : Fz} {get : Nat → Option AObj} {v : Value} {cf : Nat → List Value} {j : Nat} {l : List BlkT} (h : VW F get v l cf j) : in64 (l.getD j default).fin ∧ in64 (l.getD j default).reg ∧ in64 (l.getD j default).tgt ∧ in64 (l.getD j default).els ∧ SR F (.slice (cA (cf j) 0) (l.getD j default).ins.length (cK (cf j) 0)) (l.getD j default).ins := by
  rcases Nat.lt_or_ge j l.length with hj | hj
  · obtain ⟨⟨a0, k0, g1, h0, h1, h2, h3, h4⟩, _⟩ := h.1 default hj
    rw [show cf j = _ from g1]; exact ⟨h0, h1, h2, h3, h4⟩
  · rw [getD_out hj, h.2 hj]; exact ⟨by decide, by decide, by decide, by decide, SR.nil⟩

structure VFnT where
  params : Int
  regs : Int
  blocks : (List BlkT)
  deriving Inhabited, DecidableEq
instance : Rp VFnT where
  sz := 3
  rep F cs x := ∃ a2 k2, cs = [.int .i64 x.params, .int .i64 x.regs, .slice a2 x.blocks.length k2] ∧ in64 x.params ∧ in64 x.regs ∧ SR F (.slice a2 x.blocks.length k2) x.blocks
  len := by rintro F cs x ⟨a2, k2, rfl, _⟩; rfl
  one := by rintro F cs x ⟨a2, k2, rfl, _⟩; rfl
  mono := by rintro F F' cs x hF ⟨a2, k2, rfl, h0, h1, h2⟩; exact ⟨a2, k2, rfl, h0, h1, h2.mono hF⟩
structure DigT where
  n : Int
  deriving Inhabited, DecidableEq
instance : Rp DigT where
  sz := 1
  rep F cs x := cs = [.int .i64 x.n] ∧ in64 x.n
  len := by rintro F cs x ⟨rfl, _⟩; rfl
  one := by rintro F cs x ⟨rfl, _⟩; rfl
  mono := by intro F F' cs x _ h; exact h
def pickV (n m : Int) : Int := bif decide (Int.tmod n m < 0) then Int.tmod n m + m else Int.tmod n m
theorem pick_rng {n m : Int} (hm : 0 < m) : 0 ≤ pickV n m ∧ pickV n m < m := by
  have h1 : -m < n.tmod m := Int.lt_tmod_of_pos n hm
  have h2 : n.tmod m < m := Int.tmod_lt_of_pos n hm
  unfold pickV
  by_cases hc : n.tmod m < 0
  · simp only [decide_eq_true hc, cond_true]; omega
  · simp only [decide_eq_false hc, cond_false]; omega
theorem pick_imp (n m : Int) : 0 < m → 0 ≤ pickV n m ∧ pickV n m < m := pick_rng

def tabL : List InfT := [⟨⟨[110, 111, 112]⟩, 1, false, false, false, false, 1⟩, ⟨⟨[114, 101, 116]⟩, 1, false, false, false, false, 1⟩, ⟨⟨[116, 105, 99, 107]⟩, 1, false, false, false, false, 1⟩, ⟨⟨[116, 114, 97, 112]⟩, 8, false, false, false, true, 1⟩, ⟨⟨[106, 109, 112]⟩, 8, false, false, false, false, 1⟩, ⟨⟨[99, 97, 108, 108]⟩, 5, false, false, false, false, 1⟩, ⟨⟨[106, 122]⟩, 5, true, false, false, false, 1⟩, ⟨⟨[106, 110, 122]⟩, 5, true, false, false, false, 1⟩, ⟨⟨[111, 117, 116]⟩, 2, true, false, false, false, 1⟩, ⟨⟨[109, 111, 118]⟩, 3, false, true, true, false, 1⟩, ⟨⟨[99, 109, 111, 118, 122]⟩, 4, true, true, true, false, 1⟩, ⟨⟨[99, 109, 111, 118, 110, 122]⟩, 4, true, true, true, false, 1⟩, ⟨⟨[108, 100, 105]⟩, 5, false, true, false, false, 1⟩, ⟨⟨[108, 100, 99]⟩, 6, false, true, false, false, 3⟩, ⟨⟨[110, 101, 103]⟩, 2, true, true, false, false, 1⟩, ⟨⟨[110, 111, 116]⟩, 2, true, true, false, false, 1⟩, ⟨⟨[97, 100, 100]⟩, 3, true, true, true, false, 1⟩, ⟨⟨[115, 117, 98]⟩, 3, true, true, true, false, 1⟩, ⟨⟨[109, 117, 108]⟩, 3, true, true, true, false, 1⟩, ⟨⟨[100, 105, 118]⟩, 3, true, true, true, true, 1⟩, ⟨⟨[114, 101, 109]⟩, 3, true, true, true, true, 1⟩, ⟨⟨[97, 110, 100]⟩, 3, true, true, true, false, 1⟩, ⟨⟨[111, 114]⟩, 3, true, true, true, false, 1⟩, ⟨⟨[120, 111, 114]⟩, 3, true, true, true, false, 1⟩, ⟨⟨[115, 104, 108]⟩, 3, true, true, true, false, 1⟩, ⟨⟨[115, 104, 114]⟩, 3, true, true, true, false, 1⟩, ⟨⟨[115, 97, 114]⟩, 3, true, true, true, false, 1⟩, ⟨⟨[101, 113]⟩, 3, true, true, true, false, 1⟩, ⟨⟨[110, 101]⟩, 3, true, true, true, false, 1⟩, ⟨⟨[108, 116]⟩, 3, true, true, true, false, 1⟩, ⟨⟨[108, 101]⟩, 3, true, true, true, false, 1⟩, ⟨⟨[108, 116, 117]⟩, 3, true, true, true, false, 1⟩, ⟨⟨[97, 100, 100, 105]⟩, 5, true, true, false, false, 1⟩, ⟨⟨[108, 100]⟩, 7, false, true, true, true, 1⟩, ⟨⟨[115, 116]⟩, 7, true, false, true, true, 1⟩, ⟨⟨[108, 100, 115]⟩, 5, false, true, false, false, 1⟩, ⟨⟨[115, 116, 115]⟩, 5, true, false, false, false, 1⟩]
def infC (x : InfT) : List Value := [.string ⟨⟨x.name.b⟩⟩, .int .i64 x.form, .bool x.ra, .bool x.wa, .bool x.rb, .bool x.mt, .int .i64 x.words]
def tabC : List Value := tabL.flatMap infC
theorem rl_of {α : Type} [Rp α] {F : Fz} {c : α → List Value} : ∀ (l : List α), (∀ x ∈ l, Rp.rep F (c x) x) → RL F (l.flatMap c) l
  | [], _ => rfl
  | x :: l, h => ⟨c x, l.flatMap c, rfl, h x (List.mem_cons_self ..), rl_of l fun y hy => h y (List.mem_cons_of_mem _ hy)⟩
theorem tab_rng : ∀ x ∈ tabL, in64 x.form ∧ in64 x.words := by decide
theorem tab_sr {F : Fz} (h : TB 37 tabC F) : SR F (.slice (some ⟨1, 0, none⟩) tabL.length 37) tabL := h.sr rfl (rl_of tabL fun x hx => ⟨rfl, tab_rng x hx⟩)
def infV (op : Int) : InfT := if 1 ≤ op ∧ op ≤ 37 then tabL.getD (op - 1).toNat default else default
def infO (op : Int) : Bool := decide (1 ≤ op ∧ op ≤ 37)
def formV (op : Int) : Int := if op = 1 ∨ op = 2 ∨ op = 3 then 1 else if op = 9 ∨ op = 15 ∨ op = 16 then 2 else if op = 10 ∨ (17 ≤ op ∧ op ≤ 32) then 3 else if op = 11 ∨ op = 12 then 4 else if op = 6 ∨ op = 7 ∨ op = 8 ∨ op = 13 ∨ op = 33 ∨ op = 36 ∨ op = 37 then 5 else if op = 14 then 6 else if op = 34 ∨ op = 35 then 7 else if op = 4 ∨ op = 5 then 8 else 0
def alV (op : Int) : Bool := decide (op = 3 ∨ op = 6 ∨ (9 ≤ op ∧ op ≤ 13) ∨ (15 ≤ op ∧ op ≤ 35) ∨ op = 38)
def namesL : List Str := [⟨[]⟩, ⟨[110, 111, 112]⟩, ⟨[114, 101, 116]⟩, ⟨[116, 105, 99, 107]⟩, ⟨[116, 114, 97, 112]⟩, ⟨[106, 109, 112]⟩, ⟨[99, 97, 108, 108]⟩, ⟨[106, 122]⟩, ⟨[106, 110, 122]⟩, ⟨[111, 117, 116]⟩, ⟨[109, 111, 118]⟩, ⟨[99, 109, 111, 118, 122]⟩, ⟨[99, 109, 111, 118, 110, 122]⟩, ⟨[108, 100, 105]⟩, ⟨[108, 100, 99]⟩, ⟨[110, 101, 103]⟩, ⟨[110, 111, 116]⟩, ⟨[97, 100, 100]⟩, ⟨[115, 117, 98]⟩, ⟨[109, 117, 108]⟩, ⟨[100, 105, 118]⟩, ⟨[114, 101, 109]⟩, ⟨[97, 110, 100]⟩, ⟨[111, 114]⟩, ⟨[120, 111, 114]⟩, ⟨[115, 104, 108]⟩, ⟨[115, 104, 114]⟩, ⟨[115, 97, 114]⟩, ⟨[101, 113]⟩, ⟨[110, 101]⟩, ⟨[108, 116]⟩, ⟨[108, 101]⟩, ⟨[108, 116, 117]⟩, ⟨[97, 100, 100, 105]⟩, ⟨[108, 100]⟩, ⟨[115, 116]⟩, ⟨[108, 100, 115]⟩, ⟨[115, 116, 115]⟩]
theorem infV_no {op : Int} (h : ¬ (1 ≤ op ∧ op ≤ 37)) : (⟨⟨[]⟩, 0, false, false, false, false, 0⟩ : InfT) = infV op := by unfold infV; rw [if_neg h]; rfl
theorem infV_at {op : Int} (h : 1 ≤ op ∧ op ≤ 37) : tabL.getD (op - 1).toNat default = infV op := by unfold infV; rw [if_pos h]
theorem infO_no {op : Int} (h : ¬ (1 ≤ op ∧ op ≤ 37)) : infO op = false := decide_eq_false h
theorem infO_at {op : Int} (h : 1 ≤ op ∧ op ≤ 37) : infO op = true := decide_eq_true h
theorem form_imp (op : Int) : (formV op = 0 ∧ ¬ (1 ≤ op ∧ op ≤ 37)) ∨ (1 ≤ formV op ∧ formV op ≤ 8 ∧ 1 ≤ op ∧ op ≤ 37) := by unfold formV; (repeat' split) <;> omega
instance : DecidableEq Str := fun a b => decidable_of_iff (a.b = b.b) ⟨fun h => by cases a; cases b; simp_all, fun h => by rw [h]⟩
instance : DecidableEq InfT := fun a b => decidable_of_iff ((a.name = b.name ∧ a.form = b.form ∧ a.ra = b.ra) ∧ (a.wa = b.wa ∧ a.rb = b.rb ∧ a.mt = b.mt ∧ a.words = b.words)) ⟨fun h => by cases a; cases b; simp_all, fun h => by rw [h]; simp⟩
theorem ex37 {op : Int} (hr : 1 ≤ op ∧ op ≤ 37) : ∃ k : Fin 37, op = (k.val : Int) + 1 := ⟨⟨(op - 1).toNat, by omega⟩, by show op = ((op - 1).toNat : Int) + 1; omega⟩
theorem formV_at {op k r : Int} (h : op = k) (h2 : r = formV k) : r = formV op := by rw [h]; exact h2
theorem alV_of {op : Int} {b : Bool} (h : b = true ↔ (op = 3 ∨ op = 6 ∨ (9 ≤ op ∧ op ≤ 13) ∨ (15 ≤ op ∧ op ≤ 35) ∨ op = 38)) : b = alV op := by unfold alV; cases b <;> simp_all

theorem pick_c (ex : FuncId) (n : Int) (m : Int) (H : Heap) (hm : 0 < m ∧ m < 9223372036854775808) : C Tryd.prog 1 (KT 60 ex 37 tabC) 17 [(.int .i64 n), (.int .i64 m)] H fun v H' => ∃ (r : Int), H' = H ∧ v = .int .i64 r ∧ r = pickV n m := by
  have h1 : -m < n.tmod m := Int.lt_tmod_of_pos n hm.1
  have h2 : n.tmod m < m := Int.tmod_lt_of_pos n hm.1
  refine c_enter Tryd.func17 rfl rfl ?_
  refine wk_foc 1 rfl ?_
  refine wr 2 [] 4 4 [] [(4, (.int .i64 0))] trivial (by kernel_rfl) rfl fun gg1 => ?_
  refine wr 3 [] 5 7 [0] [(0, (.int .i64 (Int.tmod n m)))] (vA (show m ≠ 0 from by omega) trivial) (by kernel_rfl) rfl fun gg2 => ?_
  refine wr 1 [] 8 9 [] [(9, (.bool (decide (Int.tmod n m < 0))))] trivial (by kernel_rfl) rfl fun gg3 => ?_
  refine wk_if 0 2 (v := (decide (Int.tmod n m < 0))) rfl rfl rfl rfl (fun c4b => ?_) (fun c4b => ?_)
  · have c4 := c4b
    try simp only [BS] at c4
    refine wr 2 [] 10 12 [0] [(0, (.int .i64 ((Int.tmod n m) + m)))] (vA (vi (n := (Int.tmod n m) + m) (by omega)) trivial) (by kernel_rfl) rfl fun gg5 => ?_
    refine wr 1 [] 4 4 [13] [(4, (.int .i64 ((Int.tmod n m) + m)))] trivial (by kernel_rfl) rfl fun gg6 => ?_
    refine wk_ret ⟨.inr rfl, _, rfl, (Int.tmod n m) + m, rfl, rfl, (by simp only [pickV, c4b, cond_true])⟩
  · have c4 := c4b
    try simp only [BS] at c4
    refine wr 1 [] 4 4 [13] [(4, (.int .i64 (Int.tmod n m)))] trivial (by kernel_rfl) rfl fun gg7 => ?_
    refine wk_ret ⟨.inr rfl, _, rfl, Int.tmod n m, rfl, rfl, (by simp only [pickV, c4b, cond_false])⟩

theorem pick_c_q (ex : FuncId) (n : Int) (m : Int) (H : Heap) (hm : 0 < m ∧ m < 9223372036854775808) : C Tryd.prog 1 (KT 60 ex 37 tabC) 17 [(.int .i64 n), (.int .i64 m)] H fun v H' => v = (.int .i64 (pickV n m)) ∧ H' = H :=
  cq (pick_c ex n m H hm) (by rintro _ _ ⟨_, rfl, rfl, rfl⟩; exact ⟨rfl, rfl⟩)

theorem mInfo_c (ex : FuncId) (op : Int) {F : Fz} {H : Heap} {R : List Fp} (hs : HS (.of H []) F H [] R) (hop : in64 op) (hT : TB 37 tabC F) : C Tryd.prog 1 (KT 60 ex 37 tabC) 75 [(.int .i64 op)] H fun v H' => ∃ (x : InfT) (o : Bool) (F' : Fz), Fz.le F F' ∧ HS (.of H []) F' H' [] R ∧ v = .tuple ⟨[.agg ⟨[.string ⟨⟨x.name.b⟩⟩, .int .i64 x.form, .bool x.ra, .bool x.wa, .bool x.rb, .bool x.mt, .int .i64 x.words]⟩, .bool o]⟩ ∧ in64 x.form ∧ in64 x.words ∧ x = infV op ∧ o = infO op := by
  have tl : tabL.length = 37 := rfl
  refine c_enter Tryd.func75 rfl rfl ?_
  refine wk_foc 1 rfl ?_
  refine wk_region ?_
  refine wo_rs (rs_new hs rfl) rfl rfl ?_
  rintro _ H2 _ ⟨b1, rfl, hs2, _⟩
  have hs2 : HS _ _ _ [[(b1, .cells [(.string ⟨⟨[]⟩⟩), (.int .i64 0), (.bool false), (.bool false), (.bool false), (.bool false), (.int .i64 0)] none false)]] _ := hs2
  refine wa (.bool false) rfl rfl rfl ?_
  refine wo_end 3 rfl ?_
  refine wr 1 [] 4 9 [] [(9, (.bool ((decide (op < 1)) || (decide ((37 : Int) < op)))))] trivial (by kernel_rfl) rfl fun gg3 => ?_
  refine wk_if 1 2 (v := ((decide (op < 1)) || (decide ((37 : Int) < op)))) rfl rfl rfl rfl (fun c4b => ?_) (fun c4b => ?_)
  · have c4 := c4b
    try simp only [BS] at c4
    refine wk_region ?_
    refine wro 1 0 [] 10 10 [] [(10, (.agg ⟨[(.string ⟨⟨[]⟩⟩), (.int .i64 0), (.bool false), (.bool false), (.bool false), (.bool false), (.int .i64 0)]⟩))] trivial (by kernel_rfl) rfl fun gg5 => ?_
    refine wo_rk (rs_rec (q := 0) hs2 rfl rfl rfl rfl rfl rfl rfl rfl rfl) rfl ?_
    rintro _ H6 _ ⟨hs6, _⟩
    have hs6 : HS _ _ _ [_] _ := hs6
    refine wa (.bool false) rfl rfl rfl ?_
    refine wo_end 1 rfl ?_
    refine wk_ret ⟨.inr rfl, _, (rC rfl (ldVN rfl rfl (HS.hc hs6 (i := 0) rfl) rfl) (rT rfl rN)), (⟨⟨[]⟩, 0, false, false, false, false, 0⟩ : InfT), false, _, (Fz.le_refl _), (HS.forget hs6), rfl, (by first | omega | (dsimp only; omega)), (by first | omega | (dsimp only; omega)), (by first | exact infV_no (op := op) (by omega) | exact infV_at (op := op) (by omega)), (by first | exact (infO_no (op := op) (by omega)).symm | exact (infO_at (op := op) (by omega)).symm)⟩
  · have c4 := c4b
    try simp only [BS] at c4
    refine wk_region ?_
    obtain ⟨cf7, hv7⟩ := Sv.view (SR.sv (tab_sr hT) hs2)
    obtain ⟨g8_1, g8_6⟩ := InfT.fx (hv7 ((op - 1).toNat))
    refine wro 5 0 [(0, .o (.slice (some ⟨1, 0, none⟩) tabL.length 37)), (4, .o (.agg ⟨[(.string ⟨⟨(tabL.getD ((op - 1).toNat) default).name.b⟩⟩), (.int .i64 ((tabL.getD ((op - 1).toNat) default).form)), (.bool ((tabL.getD ((op - 1).toNat) default).ra)), (.bool ((tabL.getD ((op - 1).toNat) default).wa)), (.bool ((tabL.getD ((op - 1).toNat) default).rb)), (.bool ((tabL.getD ((op - 1).toNat) default).mt)), (.int .i64 ((tabL.getD ((op - 1).toNat) default).words))]⟩))] 11 15 [] [(15, (.agg ⟨[(.string ⟨⟨(tabL.getD ((op - 1).toNat) default).name.b⟩⟩), (.int .i64 ((tabL.getD ((op - 1).toNat) default).form)), (.bool ((tabL.getD ((op - 1).toNat) default).ra)), (.bool ((tabL.getD ((op - 1).toNat) default).wa)), (.bool ((tabL.getD ((op - 1).toNat) default).rb)), (.bool ((tabL.getD ((op - 1).toNat) default).mt)), (.int .i64 ((tabL.getD ((op - 1).toNat) default).words))]⟩))] (vA (ql 128 0 (TB.hc (hT.heap hs2)) rfl rfl) (vA (vi (n := op - 1) (by first | omega | (dsimp only; omega))) (vA (Sv.ix (j := op - 1) (SR.sv (tab_sr hT) hs2) (by first | omega | (dsimp only; omega)) (by first | omega | (dsimp only; omega))) (vA (qn 96 0 7 (InfT.vw (hv7 ((op - 1).toNat)) (by first | omega | (dsimp only; omega))) rfl rfl rfl rfl) trivial)))) (by kernel_rfl) rfl fun gg9 => ?_
    refine wo_rk (rs_rec (q := 0) hs2 rfl rfl rfl rfl rfl rfl rfl rfl rfl) rfl ?_
    rintro _ H10 _ ⟨hs10, _⟩
    have hs10 : HS _ _ _ [[(b1, .cells [(.string ⟨⟨(tabL.getD ((op - 1).toNat) default).name.b⟩⟩), (.int .i64 ((tabL.getD ((op - 1).toNat) default).form)), (.bool ((tabL.getD ((op - 1).toNat) default).ra)), (.bool ((tabL.getD ((op - 1).toNat) default).wa)), (.bool ((tabL.getD ((op - 1).toNat) default).rb)), (.bool ((tabL.getD ((op - 1).toNat) default).mt)), (.int .i64 ((tabL.getD ((op - 1).toNat) default).words))] none false)]] _ := hs10
    refine wa (.bool true) rfl rfl rfl ?_
    refine wo_end 1 rfl ?_
    refine wk_ret ⟨.inr rfl, _, (rC rfl (ldVN rfl rfl (HS.hc hs10 (i := 0) rfl) rfl) (rT rfl rN)), (⟨⟨(tabL.getD ((op - 1).toNat) default).name.b⟩, (tabL.getD ((op - 1).toNat) default).form, (tabL.getD ((op - 1).toNat) default).ra, (tabL.getD ((op - 1).toNat) default).wa, (tabL.getD ((op - 1).toNat) default).rb, (tabL.getD ((op - 1).toNat) default).mt, (tabL.getD ((op - 1).toNat) default).words⟩ : InfT), true, _, (Fz.le_refl _), (HS.forget hs10), rfl, (by first | omega | (dsimp only; omega)), (by first | omega | (dsimp only; omega)), (by first | exact infV_no (op := op) (by omega) | exact infV_at (op := op) (by omega)), (by first | exact (infO_no (op := op) (by omega)).symm | exact (infO_at (op := op) (by omega)).symm)⟩

theorem isBin_c (ex : FuncId) (op : Int) (H : Heap) : C Tryd.prog 1 (KT 60 ex 37 tabC) 92 [(.int .i64 op)] H fun v H' => ∃ (r : Bool), H' = H ∧ v = .bool r ∧ r = decide (17 ≤ op ∧ op ≤ 32) := by
  refine c_enter Tryd.func92 rfl rfl ?_
  refine wk_foc 1 rfl ?_
  refine wr 2 [] 2 2 [] [(2, (.bool false))] trivial (by kernel_rfl) rfl fun gg1 => ?_
  refine wr 1 [] 2 8 [] [(2, (.bool ((decide ((17 : Int) ≤ op)) && (decide (op ≤ 32)))))] trivial (by kernel_rfl) rfl fun gg2 => ?_
  refine wk_ret ⟨.inr rfl, _, rfl, ((decide ((17 : Int) ≤ op)) && (decide (op ≤ 32))), rfl, rfl, (by rw [Bool.eq_iff_iff]; simp)⟩

theorem isBin_c_q (ex : FuncId) (op : Int) (H : Heap) : C Tryd.prog 1 (KT 60 ex 37 tabC) 92 [(.int .i64 op)] H fun v H' => v = (.bool (decide (17 ≤ op ∧ op ≤ 32))) ∧ H' = H :=
  cq (isBin_c ex op H) (by rintro _ _ ⟨_, rfl, rfl, rfl⟩; exact ⟨rfl, rfl⟩)

theorem form_c (ex : FuncId) (op : Int) (H : Heap) : C Tryd.prog 1 (KT 60 ex 37 tabC) 90 [(.int .i64 op)] H fun v H' => ∃ (r : Int), H' = H ∧ v = .int .i64 r ∧ r = formV op := by
  refine c_enter Tryd.func90 rfl rfl ?_
  refine wk_foc 1 rfl ?_
  refine wr 3 [] 2 2 [] [(2, (.int .i64 0))] trivial (by kernel_rfl) rfl fun gg1 => ?_
  refine wr 4 [] 3 3 [] [(3, (.int .i64 op))] trivial (by kernel_rfl) rfl fun gg2 => ?_
  refine wr 1 [] 4 5 [] [(4, (.bool (op == 1)))] trivial (by kernel_rfl) rfl fun gg3 => ?_
  refine wk_if 1 1 (v := (op == 1)) rfl rfl rfl rfl (fun c4b => ?_) (fun c4b => ?_)
  · have c4 := c4b
    try simp only [BS] at c4
    refine wk_ift 1 (v := (op == 1)) rfl c4b rfl rfl ?_
    refine wr 1 [] 2 2 [] [(2, (.int .i64 1))] trivial (by kernel_rfl) rfl fun gg5 => ?_
    refine wk_ret ⟨.inr rfl, _, rfl, 1, rfl, rfl, (by first | exact formV_at (by assumption) (by decide) | (unfold formV; (repeat' split) <;> omega))⟩
  · have c4 := c4b
    try simp only [BS] at c4
    refine wr 1 [] 4 6 [] [(4, (.bool (op == 2)))] trivial (by kernel_rfl) rfl fun gg6 => ?_
    refine wk_if 1 0 (v := (op == 2)) rfl rfl rfl rfl (fun c7b => ?_) (fun c7b => ?_)
    · have c7 := c7b
      try simp only [BS] at c7
      refine wk_ift 1 (v := (op == 2)) rfl c7b rfl rfl ?_
      refine wr 1 [] 2 2 [] [(2, (.int .i64 1))] trivial (by kernel_rfl) rfl fun gg8 => ?_
      refine wk_ret ⟨.inr rfl, _, rfl, 1, rfl, rfl, (by first | exact formV_at (by assumption) (by decide) | (unfold formV; (repeat' split) <;> omega))⟩
    · have c7 := c7b
      try simp only [BS] at c7
      refine wr 1 [] 4 7 [] [(4, (.bool (op == 3)))] trivial (by kernel_rfl) rfl fun gg9 => ?_
      refine wk_if 1 2 (v := (op == 3)) rfl rfl rfl rfl (fun c10b => ?_) (fun c10b => ?_)
      · have c10 := c10b
        try simp only [BS] at c10
        refine wr 1 [] 2 2 [] [(2, (.int .i64 1))] trivial (by kernel_rfl) rfl fun gg11 => ?_
        refine wk_ret ⟨.inr rfl, _, rfl, 1, rfl, rfl, (by first | exact formV_at (by assumption) (by decide) | (unfold formV; (repeat' split) <;> omega))⟩
      · have c10 := c10b
        try simp only [BS] at c10
        refine wr 1 [] 8 9 [] [(8, (.bool (op == 4)))] trivial (by kernel_rfl) rfl fun gg12 => ?_
        refine wk_if 1 0 (v := (op == 4)) rfl rfl rfl rfl (fun c13b => ?_) (fun c13b => ?_)
        · have c13 := c13b
          try simp only [BS] at c13
          refine wk_ift 1 (v := (op == 4)) rfl c13b rfl rfl ?_
          refine wr 1 [] 2 2 [] [(2, (.int .i64 8))] trivial (by kernel_rfl) rfl fun gg14 => ?_
          refine wk_ret ⟨.inr rfl, _, rfl, 8, rfl, rfl, (by first | exact formV_at (by assumption) (by decide) | (unfold formV; (repeat' split) <;> omega))⟩
        · have c13 := c13b
          try simp only [BS] at c13
          refine wr 1 [] 8 10 [] [(8, (.bool (op == 5)))] trivial (by kernel_rfl) rfl fun gg15 => ?_
          refine wk_if 1 2 (v := (op == 5)) rfl rfl rfl rfl (fun c16b => ?_) (fun c16b => ?_)
          · have c16 := c16b
            try simp only [BS] at c16
            refine wr 1 [] 2 2 [] [(2, (.int .i64 8))] trivial (by kernel_rfl) rfl fun gg17 => ?_
            refine wk_ret ⟨.inr rfl, _, rfl, 8, rfl, rfl, (by first | exact formV_at (by assumption) (by decide) | (unfold formV; (repeat' split) <;> omega))⟩
          · have c16 := c16b
            try simp only [BS] at c16
            refine wr 1 [] 11 12 [] [(11, (.bool (op == 6)))] trivial (by kernel_rfl) rfl fun gg18 => ?_
            refine wk_if 1 1 (v := (op == 6)) rfl rfl rfl rfl (fun c19b => ?_) (fun c19b => ?_)
            · have c19 := c19b
              try simp only [BS] at c19
              refine wk_ift 1 (v := (op == 6)) rfl c19b rfl rfl ?_
              refine wr 1 [] 2 2 [] [(2, (.int .i64 5))] trivial (by kernel_rfl) rfl fun gg20 => ?_
              refine wk_ret ⟨.inr rfl, _, rfl, 5, rfl, rfl, (by first | exact formV_at (by assumption) (by decide) | (unfold formV; (repeat' split) <;> omega))⟩
            · have c19 := c19b
              try simp only [BS] at c19
              refine wr 1 [] 11 13 [] [(11, (.bool (op == 7)))] trivial (by kernel_rfl) rfl fun gg21 => ?_
              refine wk_if 1 1 (v := (op == 7)) rfl rfl rfl rfl (fun c22b => ?_) (fun c22b => ?_)
              · have c22 := c22b
                try simp only [BS] at c22
                refine wk_ift 1 (v := (op == 7)) rfl c22b rfl rfl ?_
                refine wr 1 [] 2 2 [] [(2, (.int .i64 5))] trivial (by kernel_rfl) rfl fun gg23 => ?_
                refine wk_ret ⟨.inr rfl, _, rfl, 5, rfl, rfl, (by first | exact formV_at (by assumption) (by decide) | (unfold formV; (repeat' split) <;> omega))⟩
              · have c22 := c22b
                try simp only [BS] at c22
                refine wr 1 [] 11 14 [] [(11, (.bool (op == 8)))] trivial (by kernel_rfl) rfl fun gg24 => ?_
                refine wk_if 1 1 (v := (op == 8)) rfl rfl rfl rfl (fun c25b => ?_) (fun c25b => ?_)
                · have c25 := c25b
                  try simp only [BS] at c25
                  refine wk_ift 1 (v := (op == 8)) rfl c25b rfl rfl ?_
                  refine wr 1 [] 2 2 [] [(2, (.int .i64 5))] trivial (by kernel_rfl) rfl fun gg26 => ?_
                  refine wk_ret ⟨.inr rfl, _, rfl, 5, rfl, rfl, (by first | exact formV_at (by assumption) (by decide) | (unfold formV; (repeat' split) <;> omega))⟩
                · have c25 := c25b
                  try simp only [BS] at c25
                  refine wr 1 [] 11 15 [] [(11, (.bool (op == 13)))] trivial (by kernel_rfl) rfl fun gg27 => ?_
                  refine wk_if 1 1 (v := (op == 13)) rfl rfl rfl rfl (fun c28b => ?_) (fun c28b => ?_)
                  · have c28 := c28b
                    try simp only [BS] at c28
                    refine wk_ift 1 (v := (op == 13)) rfl c28b rfl rfl ?_
                    refine wr 1 [] 2 2 [] [(2, (.int .i64 5))] trivial (by kernel_rfl) rfl fun gg29 => ?_
                    refine wk_ret ⟨.inr rfl, _, rfl, 5, rfl, rfl, (by first | exact formV_at (by assumption) (by decide) | (unfold formV; (repeat' split) <;> omega))⟩
                  · have c28 := c28b
                    try simp only [BS] at c28
                    refine wr 1 [] 11 16 [] [(11, (.bool (op == 33)))] trivial (by kernel_rfl) rfl fun gg30 => ?_
                    refine wk_if 1 1 (v := (op == 33)) rfl rfl rfl rfl (fun c31b => ?_) (fun c31b => ?_)
                    · have c31 := c31b
                      try simp only [BS] at c31
                      refine wk_ift 1 (v := (op == 33)) rfl c31b rfl rfl ?_
                      refine wr 1 [] 2 2 [] [(2, (.int .i64 5))] trivial (by kernel_rfl) rfl fun gg32 => ?_
                      refine wk_ret ⟨.inr rfl, _, rfl, 5, rfl, rfl, (by first | exact formV_at (by assumption) (by decide) | (unfold formV; (repeat' split) <;> omega))⟩
                    · have c31 := c31b
                      try simp only [BS] at c31
                      refine wr 1 [] 11 17 [] [(11, (.bool (op == 36)))] trivial (by kernel_rfl) rfl fun gg33 => ?_
                      refine wk_if 1 0 (v := (op == 36)) rfl rfl rfl rfl (fun c34b => ?_) (fun c34b => ?_)
                      · have c34 := c34b
                        try simp only [BS] at c34
                        refine wk_ift 1 (v := (op == 36)) rfl c34b rfl rfl ?_
                        refine wr 1 [] 2 2 [] [(2, (.int .i64 5))] trivial (by kernel_rfl) rfl fun gg35 => ?_
                        refine wk_ret ⟨.inr rfl, _, rfl, 5, rfl, rfl, (by first | exact formV_at (by assumption) (by decide) | (unfold formV; (repeat' split) <;> omega))⟩
                      · have c34 := c34b
                        try simp only [BS] at c34
                        refine wr 1 [] 11 18 [] [(11, (.bool (op == 37)))] trivial (by kernel_rfl) rfl fun gg36 => ?_
                        refine wk_if 1 2 (v := (op == 37)) rfl rfl rfl rfl (fun c37b => ?_) (fun c37b => ?_)
                        · have c37 := c37b
                          try simp only [BS] at c37
                          refine wr 1 [] 2 2 [] [(2, (.int .i64 5))] trivial (by kernel_rfl) rfl fun gg38 => ?_
                          refine wk_ret ⟨.inr rfl, _, rfl, 5, rfl, rfl, (by first | exact formV_at (by assumption) (by decide) | (unfold formV; (repeat' split) <;> omega))⟩
                        · have c37 := c37b
                          try simp only [BS] at c37
                          refine wr 1 [] 19 20 [] [(19, (.bool (op == 9)))] trivial (by kernel_rfl) rfl fun gg39 => ?_
                          refine wk_if 1 1 (v := (op == 9)) rfl rfl rfl rfl (fun c40b => ?_) (fun c40b => ?_)
                          · have c40 := c40b
                            try simp only [BS] at c40
                            refine wk_ift 1 (v := (op == 9)) rfl c40b rfl rfl ?_
                            refine wr 1 [] 2 2 [] [(2, (.int .i64 2))] trivial (by kernel_rfl) rfl fun gg41 => ?_
                            refine wk_ret ⟨.inr rfl, _, rfl, 2, rfl, rfl, (by first | exact formV_at (by assumption) (by decide) | (unfold formV; (repeat' split) <;> omega))⟩
                          · have c40 := c40b
                            try simp only [BS] at c40
                            refine wr 1 [] 19 21 [] [(19, (.bool (op == 15)))] trivial (by kernel_rfl) rfl fun gg42 => ?_
                            refine wk_if 1 0 (v := (op == 15)) rfl rfl rfl rfl (fun c43b => ?_) (fun c43b => ?_)
                            · have c43 := c43b
                              try simp only [BS] at c43
                              refine wk_ift 1 (v := (op == 15)) rfl c43b rfl rfl ?_
                              refine wr 1 [] 2 2 [] [(2, (.int .i64 2))] trivial (by kernel_rfl) rfl fun gg44 => ?_
                              refine wk_ret ⟨.inr rfl, _, rfl, 2, rfl, rfl, (by first | exact formV_at (by assumption) (by decide) | (unfold formV; (repeat' split) <;> omega))⟩
                            · have c43 := c43b
                              try simp only [BS] at c43
                              refine wr 1 [] 19 22 [] [(19, (.bool (op == 16)))] trivial (by kernel_rfl) rfl fun gg45 => ?_
                              refine wk_if 1 2 (v := (op == 16)) rfl rfl rfl rfl (fun c46b => ?_) (fun c46b => ?_)
                              · have c46 := c46b
                                try simp only [BS] at c46
                                refine wr 1 [] 2 2 [] [(2, (.int .i64 2))] trivial (by kernel_rfl) rfl fun gg47 => ?_
                                refine wk_ret ⟨.inr rfl, _, rfl, 2, rfl, rfl, (by first | exact formV_at (by assumption) (by decide) | (unfold formV; (repeat' split) <;> omega))⟩
                              · have c46 := c46b
                                try simp only [BS] at c46
                                refine wr 1 [] 23 24 [] [(23, (.bool (op == 11)))] trivial (by kernel_rfl) rfl fun gg48 => ?_
                                refine wk_if 1 0 (v := (op == 11)) rfl rfl rfl rfl (fun c49b => ?_) (fun c49b => ?_)
                                · have c49 := c49b
                                  try simp only [BS] at c49
                                  refine wk_ift 1 (v := (op == 11)) rfl c49b rfl rfl ?_
                                  refine wr 1 [] 2 2 [] [(2, (.int .i64 4))] trivial (by kernel_rfl) rfl fun gg50 => ?_
                                  refine wk_ret ⟨.inr rfl, _, rfl, 4, rfl, rfl, (by first | exact formV_at (by assumption) (by decide) | (unfold formV; (repeat' split) <;> omega))⟩
                                · have c49 := c49b
                                  try simp only [BS] at c49
                                  refine wr 1 [] 23 25 [] [(23, (.bool (op == 12)))] trivial (by kernel_rfl) rfl fun gg51 => ?_
                                  refine wk_if 1 1 (v := (op == 12)) rfl rfl rfl rfl (fun c52b => ?_) (fun c52b => ?_)
                                  · have c52 := c52b
                                    try simp only [BS] at c52
                                    refine wr 1 [] 2 2 [] [(2, (.int .i64 4))] trivial (by kernel_rfl) rfl fun gg53 => ?_
                                    refine wk_ret ⟨.inr rfl, _, rfl, 4, rfl, rfl, (by first | exact formV_at (by assumption) (by decide) | (unfold formV; (repeat' split) <;> omega))⟩
                                  · have c52 := c52b
                                    try simp only [BS] at c52
                                    refine wr 1 [] 26 27 [] [(26, (.bool (op == 14)))] trivial (by kernel_rfl) rfl fun gg54 => ?_
                                    refine wk_if 1 2 (v := (op == 14)) rfl rfl rfl rfl (fun c55b => ?_) (fun c55b => ?_)
                                    · have c55 := c55b
                                      try simp only [BS] at c55
                                      refine wr 1 [] 2 2 [] [(2, (.int .i64 6))] trivial (by kernel_rfl) rfl fun gg56 => ?_
                                      refine wk_ret ⟨.inr rfl, _, rfl, 6, rfl, rfl, (by first | exact formV_at (by assumption) (by decide) | (unfold formV; (repeat' split) <;> omega))⟩
                                    · have c55 := c55b
                                      try simp only [BS] at c55
                                      refine wr 1 [] 28 29 [] [(28, (.bool (op == 34)))] trivial (by kernel_rfl) rfl fun gg57 => ?_
                                      refine wk_if 1 0 (v := (op == 34)) rfl rfl rfl rfl (fun c58b => ?_) (fun c58b => ?_)
                                      · have c58 := c58b
                                        try simp only [BS] at c58
                                        refine wk_ift 1 (v := (op == 34)) rfl c58b rfl rfl ?_
                                        refine wr 1 [] 2 2 [] [(2, (.int .i64 7))] trivial (by kernel_rfl) rfl fun gg59 => ?_
                                        refine wk_ret ⟨.inr rfl, _, rfl, 7, rfl, rfl, (by first | exact formV_at (by assumption) (by decide) | (unfold formV; (repeat' split) <;> omega))⟩
                                      · have c58 := c58b
                                        try simp only [BS] at c58
                                        refine wr 1 [] 28 30 [] [(28, (.bool (op == 35)))] trivial (by kernel_rfl) rfl fun gg60 => ?_
                                        refine wk_if 1 4 (v := (op == 35)) rfl rfl rfl rfl (fun c61b => ?_) (fun c61b => ?_)
                                        · have c61 := c61b
                                          try simp only [BS] at c61
                                          refine wr 1 [] 2 2 [] [(2, (.int .i64 7))] trivial (by kernel_rfl) rfl fun gg62 => ?_
                                          refine wk_ret ⟨.inr rfl, _, rfl, 7, rfl, rfl, (by first | exact formV_at (by assumption) (by decide) | (unfold formV; (repeat' split) <;> omega))⟩
                                        · have c61 := c61b
                                          try simp only [BS] at c61
                                          refine wr 1 [(4, .o (.bool (decide (17 ≤ op ∧ op ≤ 32))))] 31 36 [] [(36, (.bool ((op == 10) || decide (17 ≤ op ∧ op ≤ 32))))] (vA (fun (g1 : (op == 10) = false) => (isBin_c_q ex op H)) trivial) (by kernel_rfl) rfl fun gg63 => ?_
                                          refine wk_if 1 2 (v := ((op == 10) || decide (17 ≤ op ∧ op ≤ 32))) rfl rfl rfl rfl (fun c64b => ?_) (fun c64b => ?_)
                                          · have c64 := c64b
                                            try simp only [BS] at c64
                                            refine wr 1 [] 2 2 [] [(2, (.int .i64 3))] trivial (by kernel_rfl) rfl fun gg65 => ?_
                                            refine wk_ret ⟨.inr rfl, _, rfl, 3, rfl, rfl, (by first | exact formV_at (by assumption) (by decide) | (unfold formV; (repeat' split) <;> omega))⟩
                                          · have c64 := c64b
                                            try simp only [BS] at c64
                                            refine wr 1 [] 2 2 [] [(2, (.int .i64 0))] trivial (by kernel_rfl) rfl fun gg66 => ?_
                                            refine wk_ret ⟨.inr rfl, _, rfl, 0, rfl, rfl, (by first | exact formV_at (by assumption) (by decide) | (unfold formV; (repeat' split) <;> omega))⟩

theorem form_c_q (ex : FuncId) (op : Int) (H : Heap) : C Tryd.prog 1 (KT 60 ex 37 tabC) 90 [(.int .i64 op)] H fun v H' => v = (.int .i64 (formV op)) ∧ H' = H :=
  cq (form_c ex op H) (by rintro _ _ ⟨_, rfl, rfl, rfl⟩; exact ⟨rfl, rfl⟩)

theorem names_c (ex : FuncId) {F : Fz} {H : Heap} {R : List Fp} (hs : HS (.of H []) F H [] R) (hT : TB 37 tabC F) : C Tryd.prog 1 (KT 60 ex 37 tabC) 91 [] H fun v H' => ∃ (ar : Option Addr) (kr : Nat) (r : List Str) (p : Fp) (F' : Fz), Fz.le F F' ∧ HS (.of H []) F' H' [p] R ∧ v = .slice ar r.length kr ∧ OS F' (.slice ar r.length kr) r p ∧ r = namesL := by
  refine c_enter Tryd.func91 rfl rfl ?_
  refine wk_foc 1 rfl ?_
  refine wr 2 [] 0 0 [] [(0, (.slice none 0 0))] trivial (by kernel_rfl) rfl fun gg1 => ?_
  refine wk_region ?_
  refine wo_rs (rs_lit (α := Str) (ps := [(0, (.string ⟨⟨[]⟩⟩)), (1, (.string ⟨⟨[110, 111, 112]⟩⟩)), (2, (.string ⟨⟨[114, 101, 116]⟩⟩)), (3, (.string ⟨⟨[116, 105, 99, 107]⟩⟩)), (4, (.string ⟨⟨[116, 114, 97, 112]⟩⟩)), (5, (.string ⟨⟨[106, 109, 112]⟩⟩)), (6, (.string ⟨⟨[99, 97, 108, 108]⟩⟩)), (7, (.string ⟨⟨[106, 122]⟩⟩)), (8, (.string ⟨⟨[106, 110, 122]⟩⟩)), (9, (.string ⟨⟨[111, 117, 116]⟩⟩)), (10, (.string ⟨⟨[109, 111, 118]⟩⟩)), (11, (.string ⟨⟨[99, 109, 111, 118, 122]⟩⟩)), (12, (.string ⟨⟨[99, 109, 111, 118, 110, 122]⟩⟩)), (13, (.string ⟨⟨[108, 100, 105]⟩⟩)), (14, (.string ⟨⟨[108, 100, 99]⟩⟩)), (15, (.string ⟨⟨[110, 101, 103]⟩⟩)), (16, (.string ⟨⟨[110, 111, 116]⟩⟩)), (17, (.string ⟨⟨[97, 100, 100]⟩⟩)), (18, (.string ⟨⟨[115, 117, 98]⟩⟩)), (19, (.string ⟨⟨[109, 117, 108]⟩⟩)), (20, (.string ⟨⟨[100, 105, 118]⟩⟩)), (21, (.string ⟨⟨[114, 101, 109]⟩⟩)), (22, (.string ⟨⟨[97, 110, 100]⟩⟩)), (23, (.string ⟨⟨[111, 114]⟩⟩)), (24, (.string ⟨⟨[120, 111, 114]⟩⟩)), (25, (.string ⟨⟨[115, 104, 108]⟩⟩)), (26, (.string ⟨⟨[115, 104, 114]⟩⟩)), (27, (.string ⟨⟨[115, 97, 114]⟩⟩)), (28, (.string ⟨⟨[101, 113]⟩⟩)), (29, (.string ⟨⟨[110, 101]⟩⟩)), (30, (.string ⟨⟨[108, 116]⟩⟩)), (31, (.string ⟨⟨[108, 101]⟩⟩)), (32, (.string ⟨⟨[108, 116, 117]⟩⟩)), (33, (.string ⟨⟨[97, 100, 100, 105]⟩⟩)), (34, (.string ⟨⟨[108, 100]⟩⟩)), (35, (.string ⟨⟨[115, 116]⟩⟩)), (36, (.string ⟨⟨[108, 100, 115]⟩⟩)), (37, (.string ⟨⟨[115, 116, 115]⟩⟩))]) (cells := [(.string ⟨⟨[]⟩⟩), (.string ⟨⟨[110, 111, 112]⟩⟩), (.string ⟨⟨[114, 101, 116]⟩⟩), (.string ⟨⟨[116, 105, 99, 107]⟩⟩), (.string ⟨⟨[116, 114, 97, 112]⟩⟩), (.string ⟨⟨[106, 109, 112]⟩⟩), (.string ⟨⟨[99, 97, 108, 108]⟩⟩), (.string ⟨⟨[106, 122]⟩⟩), (.string ⟨⟨[106, 110, 122]⟩⟩), (.string ⟨⟨[111, 117, 116]⟩⟩), (.string ⟨⟨[109, 111, 118]⟩⟩), (.string ⟨⟨[99, 109, 111, 118, 122]⟩⟩), (.string ⟨⟨[99, 109, 111, 118, 110, 122]⟩⟩), (.string ⟨⟨[108, 100, 105]⟩⟩), (.string ⟨⟨[108, 100, 99]⟩⟩), (.string ⟨⟨[110, 101, 103]⟩⟩), (.string ⟨⟨[110, 111, 116]⟩⟩), (.string ⟨⟨[97, 100, 100]⟩⟩), (.string ⟨⟨[115, 117, 98]⟩⟩), (.string ⟨⟨[109, 117, 108]⟩⟩), (.string ⟨⟨[100, 105, 118]⟩⟩), (.string ⟨⟨[114, 101, 109]⟩⟩), (.string ⟨⟨[97, 110, 100]⟩⟩), (.string ⟨⟨[111, 114]⟩⟩), (.string ⟨⟨[120, 111, 114]⟩⟩), (.string ⟨⟨[115, 104, 108]⟩⟩), (.string ⟨⟨[115, 104, 114]⟩⟩), (.string ⟨⟨[115, 97, 114]⟩⟩), (.string ⟨⟨[101, 113]⟩⟩), (.string ⟨⟨[110, 101]⟩⟩), (.string ⟨⟨[108, 116]⟩⟩), (.string ⟨⟨[108, 101]⟩⟩), (.string ⟨⟨[108, 116, 117]⟩⟩), (.string ⟨⟨[97, 100, 100, 105]⟩⟩), (.string ⟨⟨[108, 100]⟩⟩), (.string ⟨⟨[115, 116]⟩⟩), (.string ⟨⟨[108, 100, 115]⟩⟩), (.string ⟨⟨[115, 116, 115]⟩⟩)]) ([⟨[]⟩, ⟨[110, 111, 112]⟩, ⟨[114, 101, 116]⟩, ⟨[116, 105, 99, 107]⟩, ⟨[116, 114, 97, 112]⟩, ⟨[106, 109, 112]⟩, ⟨[99, 97, 108, 108]⟩, ⟨[106, 122]⟩, ⟨[106, 110, 122]⟩, ⟨[111, 117, 116]⟩, ⟨[109, 111, 118]⟩, ⟨[99, 109, 111, 118, 122]⟩, ⟨[99, 109, 111, 118, 110, 122]⟩, ⟨[108, 100, 105]⟩, ⟨[108, 100, 99]⟩, ⟨[110, 101, 103]⟩, ⟨[110, 111, 116]⟩, ⟨[97, 100, 100]⟩, ⟨[115, 117, 98]⟩, ⟨[109, 117, 108]⟩, ⟨[100, 105, 118]⟩, ⟨[114, 101, 109]⟩, ⟨[97, 110, 100]⟩, ⟨[111, 114]⟩, ⟨[120, 111, 114]⟩, ⟨[115, 104, 108]⟩, ⟨[115, 104, 114]⟩, ⟨[115, 97, 114]⟩, ⟨[101, 113]⟩, ⟨[110, 101]⟩, ⟨[108, 116]⟩, ⟨[108, 101]⟩, ⟨[108, 116, 117]⟩, ⟨[97, 100, 100, 105]⟩, ⟨[108, 100]⟩, ⟨[115, 116]⟩, ⟨[108, 100, 115]⟩, ⟨[115, 116, 115]⟩] : List Str) hs rfl rfl rfl (by kernel_rfl) ⟨[(.string ⟨⟨[]⟩⟩)], [(.string ⟨⟨[110, 111, 112]⟩⟩), (.string ⟨⟨[114, 101, 116]⟩⟩), (.string ⟨⟨[116, 105, 99, 107]⟩⟩), (.string ⟨⟨[116, 114, 97, 112]⟩⟩), (.string ⟨⟨[106, 109, 112]⟩⟩), (.string ⟨⟨[99, 97, 108, 108]⟩⟩), (.string ⟨⟨[106, 122]⟩⟩), (.string ⟨⟨[106, 110, 122]⟩⟩), (.string ⟨⟨[111, 117, 116]⟩⟩), (.string ⟨⟨[109, 111, 118]⟩⟩), (.string ⟨⟨[99, 109, 111, 118, 122]⟩⟩), (.string ⟨⟨[99, 109, 111, 118, 110, 122]⟩⟩), (.string ⟨⟨[108, 100, 105]⟩⟩), (.string ⟨⟨[108, 100, 99]⟩⟩), (.string ⟨⟨[110, 101, 103]⟩⟩), (.string ⟨⟨[110, 111, 116]⟩⟩), (.string ⟨⟨[97, 100, 100]⟩⟩), (.string ⟨⟨[115, 117, 98]⟩⟩), (.string ⟨⟨[109, 117, 108]⟩⟩), (.string ⟨⟨[100, 105, 118]⟩⟩), (.string ⟨⟨[114, 101, 109]⟩⟩), (.string ⟨⟨[97, 110, 100]⟩⟩), (.string ⟨⟨[111, 114]⟩⟩), (.string ⟨⟨[120, 111, 114]⟩⟩), (.string ⟨⟨[115, 104, 108]⟩⟩), (.string ⟨⟨[115, 104, 114]⟩⟩), (.string ⟨⟨[115, 97, 114]⟩⟩), (.string ⟨⟨[101, 113]⟩⟩), (.string ⟨⟨[110, 101]⟩⟩), (.string ⟨⟨[108, 116]⟩⟩), (.string ⟨⟨[108, 101]⟩⟩), (.string ⟨⟨[108, 116, 117]⟩⟩), (.string ⟨⟨[97, 100, 100, 105]⟩⟩), (.string ⟨⟨[108, 100]⟩⟩), (.string ⟨⟨[115, 116]⟩⟩), (.string ⟨⟨[108, 100, 115]⟩⟩), (.string ⟨⟨[115, 116, 115]⟩⟩)], rfl, rfl, ⟨[(.string ⟨⟨[110, 111, 112]⟩⟩)], [(.string ⟨⟨[114, 101, 116]⟩⟩), (.string ⟨⟨[116, 105, 99, 107]⟩⟩), (.string ⟨⟨[116, 114, 97, 112]⟩⟩), (.string ⟨⟨[106, 109, 112]⟩⟩), (.string ⟨⟨[99, 97, 108, 108]⟩⟩), (.string ⟨⟨[106, 122]⟩⟩), (.string ⟨⟨[106, 110, 122]⟩⟩), (.string ⟨⟨[111, 117, 116]⟩⟩), (.string ⟨⟨[109, 111, 118]⟩⟩), (.string ⟨⟨[99, 109, 111, 118, 122]⟩⟩), (.string ⟨⟨[99, 109, 111, 118, 110, 122]⟩⟩), (.string ⟨⟨[108, 100, 105]⟩⟩), (.string ⟨⟨[108, 100, 99]⟩⟩), (.string ⟨⟨[110, 101, 103]⟩⟩), (.string ⟨⟨[110, 111, 116]⟩⟩), (.string ⟨⟨[97, 100, 100]⟩⟩), (.string ⟨⟨[115, 117, 98]⟩⟩), (.string ⟨⟨[109, 117, 108]⟩⟩), (.string ⟨⟨[100, 105, 118]⟩⟩), (.string ⟨⟨[114, 101, 109]⟩⟩), (.string ⟨⟨[97, 110, 100]⟩⟩), (.string ⟨⟨[111, 114]⟩⟩), (.string ⟨⟨[120, 111, 114]⟩⟩), (.string ⟨⟨[115, 104, 108]⟩⟩), (.string ⟨⟨[115, 104, 114]⟩⟩), (.string ⟨⟨[115, 97, 114]⟩⟩), (.string ⟨⟨[101, 113]⟩⟩), (.string ⟨⟨[110, 101]⟩⟩), (.string ⟨⟨[108, 116]⟩⟩), (.string ⟨⟨[108, 101]⟩⟩), (.string ⟨⟨[108, 116, 117]⟩⟩), (.string ⟨⟨[97, 100, 100, 105]⟩⟩), (.string ⟨⟨[108, 100]⟩⟩), (.string ⟨⟨[115, 116]⟩⟩), (.string ⟨⟨[108, 100, 115]⟩⟩), (.string ⟨⟨[115, 116, 115]⟩⟩)], rfl, rfl, ⟨[(.string ⟨⟨[114, 101, 116]⟩⟩)], [(.string ⟨⟨[116, 105, 99, 107]⟩⟩), (.string ⟨⟨[116, 114, 97, 112]⟩⟩), (.string ⟨⟨[106, 109, 112]⟩⟩), (.string ⟨⟨[99, 97, 108, 108]⟩⟩), (.string ⟨⟨[106, 122]⟩⟩), (.string ⟨⟨[106, 110, 122]⟩⟩), (.string ⟨⟨[111, 117, 116]⟩⟩), (.string ⟨⟨[109, 111, 118]⟩⟩), (.string ⟨⟨[99, 109, 111, 118, 122]⟩⟩), (.string ⟨⟨[99, 109, 111, 118, 110, 122]⟩⟩), (.string ⟨⟨[108, 100, 105]⟩⟩), (.string ⟨⟨[108, 100, 99]⟩⟩), (.string ⟨⟨[110, 101, 103]⟩⟩), (.string ⟨⟨[110, 111, 116]⟩⟩), (.string ⟨⟨[97, 100, 100]⟩⟩), (.string ⟨⟨[115, 117, 98]⟩⟩), (.string ⟨⟨[109, 117, 108]⟩⟩), (.string ⟨⟨[100, 105, 118]⟩⟩), (.string ⟨⟨[114, 101, 109]⟩⟩), (.string ⟨⟨[97, 110, 100]⟩⟩), (.string ⟨⟨[111, 114]⟩⟩), (.string ⟨⟨[120, 111, 114]⟩⟩), (.string ⟨⟨[115, 104, 108]⟩⟩), (.string ⟨⟨[115, 104, 114]⟩⟩), (.string ⟨⟨[115, 97, 114]⟩⟩), (.string ⟨⟨[101, 113]⟩⟩), (.string ⟨⟨[110, 101]⟩⟩), (.string ⟨⟨[108, 116]⟩⟩), (.string ⟨⟨[108, 101]⟩⟩), (.string ⟨⟨[108, 116, 117]⟩⟩), (.string ⟨⟨[97, 100, 100, 105]⟩⟩), (.string ⟨⟨[108, 100]⟩⟩), (.string ⟨⟨[115, 116]⟩⟩), (.string ⟨⟨[108, 100, 115]⟩⟩), (.string ⟨⟨[115, 116, 115]⟩⟩)], rfl, rfl, ⟨[(.string ⟨⟨[116, 105, 99, 107]⟩⟩)], [(.string ⟨⟨[116, 114, 97, 112]⟩⟩), (.string ⟨⟨[106, 109, 112]⟩⟩), (.string ⟨⟨[99, 97, 108, 108]⟩⟩), (.string ⟨⟨[106, 122]⟩⟩), (.string ⟨⟨[106, 110, 122]⟩⟩), (.string ⟨⟨[111, 117, 116]⟩⟩), (.string ⟨⟨[109, 111, 118]⟩⟩), (.string ⟨⟨[99, 109, 111, 118, 122]⟩⟩), (.string ⟨⟨[99, 109, 111, 118, 110, 122]⟩⟩), (.string ⟨⟨[108, 100, 105]⟩⟩), (.string ⟨⟨[108, 100, 99]⟩⟩), (.string ⟨⟨[110, 101, 103]⟩⟩), (.string ⟨⟨[110, 111, 116]⟩⟩), (.string ⟨⟨[97, 100, 100]⟩⟩), (.string ⟨⟨[115, 117, 98]⟩⟩), (.string ⟨⟨[109, 117, 108]⟩⟩), (.string ⟨⟨[100, 105, 118]⟩⟩), (.string ⟨⟨[114, 101, 109]⟩⟩), (.string ⟨⟨[97, 110, 100]⟩⟩), (.string ⟨⟨[111, 114]⟩⟩), (.string ⟨⟨[120, 111, 114]⟩⟩), (.string ⟨⟨[115, 104, 108]⟩⟩), (.string ⟨⟨[115, 104, 114]⟩⟩), (.string ⟨⟨[115, 97, 114]⟩⟩), (.string ⟨⟨[101, 113]⟩⟩), (.string ⟨⟨[110, 101]⟩⟩), (.string ⟨⟨[108, 116]⟩⟩), (.string ⟨⟨[108, 101]⟩⟩), (.string ⟨⟨[108, 116, 117]⟩⟩), (.string ⟨⟨[97, 100, 100, 105]⟩⟩), (.string ⟨⟨[108, 100]⟩⟩), (.string ⟨⟨[115, 116]⟩⟩), (.string ⟨⟨[108, 100, 115]⟩⟩), (.string ⟨⟨[115, 116, 115]⟩⟩)], rfl, rfl, ⟨[(.string ⟨⟨[116, 114, 97, 112]⟩⟩)], [(.string ⟨⟨[106, 109, 112]⟩⟩), (.string ⟨⟨[99, 97, 108, 108]⟩⟩), (.string ⟨⟨[106, 122]⟩⟩), (.string ⟨⟨[106, 110, 122]⟩⟩), (.string ⟨⟨[111, 117, 116]⟩⟩), (.string ⟨⟨[109, 111, 118]⟩⟩), (.string ⟨⟨[99, 109, 111, 118, 122]⟩⟩), (.string ⟨⟨[99, 109, 111, 118, 110, 122]⟩⟩), (.string ⟨⟨[108, 100, 105]⟩⟩), (.string ⟨⟨[108, 100, 99]⟩⟩), (.string ⟨⟨[110, 101, 103]⟩⟩), (.string ⟨⟨[110, 111, 116]⟩⟩), (.string ⟨⟨[97, 100, 100]⟩⟩), (.string ⟨⟨[115, 117, 98]⟩⟩), (.string ⟨⟨[109, 117, 108]⟩⟩), (.string ⟨⟨[100, 105, 118]⟩⟩), (.string ⟨⟨[114, 101, 109]⟩⟩), (.string ⟨⟨[97, 110, 100]⟩⟩), (.string ⟨⟨[111, 114]⟩⟩), (.string ⟨⟨[120, 111, 114]⟩⟩), (.string ⟨⟨[115, 104, 108]⟩⟩), (.string ⟨⟨[115, 104, 114]⟩⟩), (.string ⟨⟨[115, 97, 114]⟩⟩), (.string ⟨⟨[101, 113]⟩⟩), (.string ⟨⟨[110, 101]⟩⟩), (.string ⟨⟨[108, 116]⟩⟩), (.string ⟨⟨[108, 101]⟩⟩), (.string ⟨⟨[108, 116, 117]⟩⟩), (.string ⟨⟨[97, 100, 100, 105]⟩⟩), (.string ⟨⟨[108, 100]⟩⟩), (.string ⟨⟨[115, 116]⟩⟩), (.string ⟨⟨[108, 100, 115]⟩⟩), (.string ⟨⟨[115, 116, 115]⟩⟩)], rfl, rfl, ⟨[(.string ⟨⟨[106, 109, 112]⟩⟩)], [(.string ⟨⟨[99, 97, 108, 108]⟩⟩), (.string ⟨⟨[106, 122]⟩⟩), (.string ⟨⟨[106, 110, 122]⟩⟩), (.string ⟨⟨[111, 117, 116]⟩⟩), (.string ⟨⟨[109, 111, 118]⟩⟩), (.string ⟨⟨[99, 109, 111, 118, 122]⟩⟩), (.string ⟨⟨[99, 109, 111, 118, 110, 122]⟩⟩), (.string ⟨⟨[108, 100, 105]⟩⟩), (.string ⟨⟨[108, 100, 99]⟩⟩), (.string ⟨⟨[110, 101, 103]⟩⟩), (.string ⟨⟨[110, 111, 116]⟩⟩), (.string ⟨⟨[97, 100, 100]⟩⟩), (.string ⟨⟨[115, 117, 98]⟩⟩), (.string ⟨⟨[109, 117, 108]⟩⟩), (.string ⟨⟨[100, 105, 118]⟩⟩), (.string ⟨⟨[114, 101, 109]⟩⟩), (.string ⟨⟨[97, 110, 100]⟩⟩), (.string ⟨⟨[111, 114]⟩⟩), (.string ⟨⟨[120, 111, 114]⟩⟩), (.string ⟨⟨[115, 104, 108]⟩⟩), (.string ⟨⟨[115, 104, 114]⟩⟩), (.string ⟨⟨[115, 97, 114]⟩⟩), (.string ⟨⟨[101, 113]⟩⟩), (.string ⟨⟨[110, 101]⟩⟩), (.string ⟨⟨[108, 116]⟩⟩), (.string ⟨⟨[108, 101]⟩⟩), (.string ⟨⟨[108, 116, 117]⟩⟩), (.string ⟨⟨[97, 100, 100, 105]⟩⟩), (.string ⟨⟨[108, 100]⟩⟩), (.string ⟨⟨[115, 116]⟩⟩), (.string ⟨⟨[108, 100, 115]⟩⟩), (.string ⟨⟨[115, 116, 115]⟩⟩)], rfl, rfl, ⟨[(.string ⟨⟨[99, 97, 108, 108]⟩⟩)], [(.string ⟨⟨[106, 122]⟩⟩), (.string ⟨⟨[106, 110, 122]⟩⟩), (.string ⟨⟨[111, 117, 116]⟩⟩), (.string ⟨⟨[109, 111, 118]⟩⟩), (.string ⟨⟨[99, 109, 111, 118, 122]⟩⟩), (.string ⟨⟨[99, 109, 111, 118, 110, 122]⟩⟩), (.string ⟨⟨[108, 100, 105]⟩⟩), (.string ⟨⟨[108, 100, 99]⟩⟩), (.string ⟨⟨[110, 101, 103]⟩⟩), (.string ⟨⟨[110, 111, 116]⟩⟩), (.string ⟨⟨[97, 100, 100]⟩⟩), (.string ⟨⟨[115, 117, 98]⟩⟩), (.string ⟨⟨[109, 117, 108]⟩⟩), (.string ⟨⟨[100, 105, 118]⟩⟩), (.string ⟨⟨[114, 101, 109]⟩⟩), (.string ⟨⟨[97, 110, 100]⟩⟩), (.string ⟨⟨[111, 114]⟩⟩), (.string ⟨⟨[120, 111, 114]⟩⟩), (.string ⟨⟨[115, 104, 108]⟩⟩), (.string ⟨⟨[115, 104, 114]⟩⟩), (.string ⟨⟨[115, 97, 114]⟩⟩), (.string ⟨⟨[101, 113]⟩⟩), (.string ⟨⟨[110, 101]⟩⟩), (.string ⟨⟨[108, 116]⟩⟩), (.string ⟨⟨[108, 101]⟩⟩), (.string ⟨⟨[108, 116, 117]⟩⟩), (.string ⟨⟨[97, 100, 100, 105]⟩⟩), (.string ⟨⟨[108, 100]⟩⟩), (.string ⟨⟨[115, 116]⟩⟩), (.string ⟨⟨[108, 100, 115]⟩⟩), (.string ⟨⟨[115, 116, 115]⟩⟩)], rfl, rfl, ⟨[(.string ⟨⟨[106, 122]⟩⟩)], [(.string ⟨⟨[106, 110, 122]⟩⟩), (.string ⟨⟨[111, 117, 116]⟩⟩), (.string ⟨⟨[109, 111, 118]⟩⟩), (.string ⟨⟨[99, 109, 111, 118, 122]⟩⟩), (.string ⟨⟨[99, 109, 111, 118, 110, 122]⟩⟩), (.string ⟨⟨[108, 100, 105]⟩⟩), (.string ⟨⟨[108, 100, 99]⟩⟩), (.string ⟨⟨[110, 101, 103]⟩⟩), (.string ⟨⟨[110, 111, 116]⟩⟩), (.string ⟨⟨[97, 100, 100]⟩⟩), (.string ⟨⟨[115, 117, 98]⟩⟩), (.string ⟨⟨[109, 117, 108]⟩⟩), (.string ⟨⟨[100, 105, 118]⟩⟩), (.string ⟨⟨[114, 101, 109]⟩⟩), (.string ⟨⟨[97, 110, 100]⟩⟩), (.string ⟨⟨[111, 114]⟩⟩), (.string ⟨⟨[120, 111, 114]⟩⟩), (.string ⟨⟨[115, 104, 108]⟩⟩), (.string ⟨⟨[115, 104, 114]⟩⟩), (.string ⟨⟨[115, 97, 114]⟩⟩), (.string ⟨⟨[101, 113]⟩⟩), (.string ⟨⟨[110, 101]⟩⟩), (.string ⟨⟨[108, 116]⟩⟩), (.string ⟨⟨[108, 101]⟩⟩), (.string ⟨⟨[108, 116, 117]⟩⟩), (.string ⟨⟨[97, 100, 100, 105]⟩⟩), (.string ⟨⟨[108, 100]⟩⟩), (.string ⟨⟨[115, 116]⟩⟩), (.string ⟨⟨[108, 100, 115]⟩⟩), (.string ⟨⟨[115, 116, 115]⟩⟩)], rfl, rfl, ⟨[(.string ⟨⟨[106, 110, 122]⟩⟩)], [(.string ⟨⟨[111, 117, 116]⟩⟩), (.string ⟨⟨[109, 111, 118]⟩⟩), (.string ⟨⟨[99, 109, 111, 118, 122]⟩⟩), (.string ⟨⟨[99, 109, 111, 118, 110, 122]⟩⟩), (.string ⟨⟨[108, 100, 105]⟩⟩), (.string ⟨⟨[108, 100, 99]⟩⟩), (.string ⟨⟨[110, 101, 103]⟩⟩), (.string ⟨⟨[110, 111, 116]⟩⟩), (.string ⟨⟨[97, 100, 100]⟩⟩), (.string ⟨⟨[115, 117, 98]⟩⟩), (.string ⟨⟨[109, 117, 108]⟩⟩), (.string ⟨⟨[100, 105, 118]⟩⟩), (.string ⟨⟨[114, 101, 109]⟩⟩), (.string ⟨⟨[97, 110, 100]⟩⟩), (.string ⟨⟨[111, 114]⟩⟩), (.string ⟨⟨[120, 111, 114]⟩⟩), (.string ⟨⟨[115, 104, 108]⟩⟩), (.string ⟨⟨[115, 104, 114]⟩⟩), (.string ⟨⟨[115, 97, 114]⟩⟩), (.string ⟨⟨[101, 113]⟩⟩), (.string ⟨⟨[110, 101]⟩⟩), (.string ⟨⟨[108, 116]⟩⟩), (.string ⟨⟨[108, 101]⟩⟩), (.string ⟨⟨[108, 116, 117]⟩⟩), (.string ⟨⟨[97, 100, 100, 105]⟩⟩), (.string ⟨⟨[108, 100]⟩⟩), (.string ⟨⟨[115, 116]⟩⟩), (.string ⟨⟨[108, 100, 115]⟩⟩), (.string ⟨⟨[115, 116, 115]⟩⟩)], rfl, rfl, ⟨[(.string ⟨⟨[111, 117, 116]⟩⟩)], [(.string ⟨⟨[109, 111, 118]⟩⟩), (.string ⟨⟨[99, 109, 111, 118, 122]⟩⟩), (.string ⟨⟨[99, 109, 111, 118, 110, 122]⟩⟩), (.string ⟨⟨[108, 100, 105]⟩⟩), (.string ⟨⟨[108, 100, 99]⟩⟩), (.string ⟨⟨[110, 101, 103]⟩⟩), (.string ⟨⟨[110, 111, 116]⟩⟩), (.string ⟨⟨[97, 100, 100]⟩⟩), (.string ⟨⟨[115, 117, 98]⟩⟩), (.string ⟨⟨[109, 117, 108]⟩⟩), (.string ⟨⟨[100, 105, 118]⟩⟩), (.string ⟨⟨[114, 101, 109]⟩⟩), (.string ⟨⟨[97, 110, 100]⟩⟩), (.string ⟨⟨[111, 114]⟩⟩), (.string ⟨⟨[120, 111, 114]⟩⟩), (.string ⟨⟨[115, 104, 108]⟩⟩), (.string ⟨⟨[115, 104, 114]⟩⟩), (.string ⟨⟨[115, 97, 114]⟩⟩), (.string ⟨⟨[101, 113]⟩⟩), (.string ⟨⟨[110, 101]⟩⟩), (.string ⟨⟨[108, 116]⟩⟩), (.string ⟨⟨[108, 101]⟩⟩), (.string ⟨⟨[108, 116, 117]⟩⟩), (.string ⟨⟨[97, 100, 100, 105]⟩⟩), (.string ⟨⟨[108, 100]⟩⟩), (.string ⟨⟨[115, 116]⟩⟩), (.string ⟨⟨[108, 100, 115]⟩⟩), (.string ⟨⟨[115, 116, 115]⟩⟩)], rfl, rfl, ⟨[(.string ⟨⟨[109, 111, 118]⟩⟩)], [(.string ⟨⟨[99, 109, 111, 118, 122]⟩⟩), (.string ⟨⟨[99, 109, 111, 118, 110, 122]⟩⟩), (.string ⟨⟨[108, 100, 105]⟩⟩), (.string ⟨⟨[108, 100, 99]⟩⟩), (.string ⟨⟨[110, 101, 103]⟩⟩), (.string ⟨⟨[110, 111, 116]⟩⟩), (.string ⟨⟨[97, 100, 100]⟩⟩), (.string ⟨⟨[115, 117, 98]⟩⟩), (.string ⟨⟨[109, 117, 108]⟩⟩), (.string ⟨⟨[100, 105, 118]⟩⟩), (.string ⟨⟨[114, 101, 109]⟩⟩), (.string ⟨⟨[97, 110, 100]⟩⟩), (.string ⟨⟨[111, 114]⟩⟩), (.string ⟨⟨[120, 111, 114]⟩⟩), (.string ⟨⟨[115, 104, 108]⟩⟩), (.string ⟨⟨[115, 104, 114]⟩⟩), (.string ⟨⟨[115, 97, 114]⟩⟩), (.string ⟨⟨[101, 113]⟩⟩), (.string ⟨⟨[110, 101]⟩⟩), (.string ⟨⟨[108, 116]⟩⟩), (.string ⟨⟨[108, 101]⟩⟩), (.string ⟨⟨[108, 116, 117]⟩⟩), (.string ⟨⟨[97, 100, 100, 105]⟩⟩), (.string ⟨⟨[108, 100]⟩⟩), (.string ⟨⟨[115, 116]⟩⟩), (.string ⟨⟨[108, 100, 115]⟩⟩), (.string ⟨⟨[115, 116, 115]⟩⟩)], rfl, rfl, ⟨[(.string ⟨⟨[99, 109, 111, 118, 122]⟩⟩)], [(.string ⟨⟨[99, 109, 111, 118, 110, 122]⟩⟩), (.string ⟨⟨[108, 100, 105]⟩⟩), (.string ⟨⟨[108, 100, 99]⟩⟩), (.string ⟨⟨[110, 101, 103]⟩⟩), (.string ⟨⟨[110, 111, 116]⟩⟩), (.string ⟨⟨[97, 100, 100]⟩⟩), (.string ⟨⟨[115, 117, 98]⟩⟩), (.string ⟨⟨[109, 117, 108]⟩⟩), (.string ⟨⟨[100, 105, 118]⟩⟩), (.string ⟨⟨[114, 101, 109]⟩⟩), (.string ⟨⟨[97, 110, 100]⟩⟩), (.string ⟨⟨[111, 114]⟩⟩), (.string ⟨⟨[120, 111, 114]⟩⟩), (.string ⟨⟨[115, 104, 108]⟩⟩), (.string ⟨⟨[115, 104, 114]⟩⟩), (.string ⟨⟨[115, 97, 114]⟩⟩), (.string ⟨⟨[101, 113]⟩⟩), (.string ⟨⟨[110, 101]⟩⟩), (.string ⟨⟨[108, 116]⟩⟩), (.string ⟨⟨[108, 101]⟩⟩), (.string ⟨⟨[108, 116, 117]⟩⟩), (.string ⟨⟨[97, 100, 100, 105]⟩⟩), (.string ⟨⟨[108, 100]⟩⟩), (.string ⟨⟨[115, 116]⟩⟩), (.string ⟨⟨[108, 100, 115]⟩⟩), (.string ⟨⟨[115, 116, 115]⟩⟩)], rfl, rfl, ⟨[(.string ⟨⟨[99, 109, 111, 118, 110, 122]⟩⟩)], [(.string ⟨⟨[108, 100, 105]⟩⟩), (.string ⟨⟨[108, 100, 99]⟩⟩), (.string ⟨⟨[110, 101, 103]⟩⟩), (.string ⟨⟨[110, 111, 116]⟩⟩), (.string ⟨⟨[97, 100, 100]⟩⟩), (.string ⟨⟨[115, 117, 98]⟩⟩), (.string ⟨⟨[109, 117, 108]⟩⟩), (.string ⟨⟨[100, 105, 118]⟩⟩), (.string ⟨⟨[114, 101, 109]⟩⟩), (.string ⟨⟨[97, 110, 100]⟩⟩), (.string ⟨⟨[111, 114]⟩⟩), (.string ⟨⟨[120, 111, 114]⟩⟩), (.string ⟨⟨[115, 104, 108]⟩⟩), (.string ⟨⟨[115, 104, 114]⟩⟩), (.string ⟨⟨[115, 97, 114]⟩⟩), (.string ⟨⟨[101, 113]⟩⟩), (.string ⟨⟨[110, 101]⟩⟩), (.string ⟨⟨[108, 116]⟩⟩), (.string ⟨⟨[108, 101]⟩⟩), (.string ⟨⟨[108, 116, 117]⟩⟩), (.string ⟨⟨[97, 100, 100, 105]⟩⟩), (.string ⟨⟨[108, 100]⟩⟩), (.string ⟨⟨[115, 116]⟩⟩), (.string ⟨⟨[108, 100, 115]⟩⟩), (.string ⟨⟨[115, 116, 115]⟩⟩)], rfl, rfl, ⟨[(.string ⟨⟨[108, 100, 105]⟩⟩)], [(.string ⟨⟨[108, 100, 99]⟩⟩), (.string ⟨⟨[110, 101, 103]⟩⟩), (.string ⟨⟨[110, 111, 116]⟩⟩), (.string ⟨⟨[97, 100, 100]⟩⟩), (.string ⟨⟨[115, 117, 98]⟩⟩), (.string ⟨⟨[109, 117, 108]⟩⟩), (.string ⟨⟨[100, 105, 118]⟩⟩), (.string ⟨⟨[114, 101, 109]⟩⟩), (.string ⟨⟨[97, 110, 100]⟩⟩), (.string ⟨⟨[111, 114]⟩⟩), (.string ⟨⟨[120, 111, 114]⟩⟩), (.string ⟨⟨[115, 104, 108]⟩⟩), (.string ⟨⟨[115, 104, 114]⟩⟩), (.string ⟨⟨[115, 97, 114]⟩⟩), (.string ⟨⟨[101, 113]⟩⟩), (.string ⟨⟨[110, 101]⟩⟩), (.string ⟨⟨[108, 116]⟩⟩), (.string ⟨⟨[108, 101]⟩⟩), (.string ⟨⟨[108, 116, 117]⟩⟩), (.string ⟨⟨[97, 100, 100, 105]⟩⟩), (.string ⟨⟨[108, 100]⟩⟩), (.string ⟨⟨[115, 116]⟩⟩), (.string ⟨⟨[108, 100, 115]⟩⟩), (.string ⟨⟨[115, 116, 115]⟩⟩)], rfl, rfl, ⟨[(.string ⟨⟨[108, 100, 99]⟩⟩)], [(.string ⟨⟨[110, 101, 103]⟩⟩), (.string ⟨⟨[110, 111, 116]⟩⟩), (.string ⟨⟨[97, 100, 100]⟩⟩), (.string ⟨⟨[115, 117, 98]⟩⟩), (.string ⟨⟨[109, 117, 108]⟩⟩), (.string ⟨⟨[100, 105, 118]⟩⟩), (.string ⟨⟨[114, 101, 109]⟩⟩), (.string ⟨⟨[97, 110, 100]⟩⟩), (.string ⟨⟨[111, 114]⟩⟩), (.string ⟨⟨[120, 111, 114]⟩⟩), (.string ⟨⟨[115, 104, 108]⟩⟩), (.string ⟨⟨[115, 104, 114]⟩⟩), (.string ⟨⟨[115, 97, 114]⟩⟩), (.string ⟨⟨[101, 113]⟩⟩), (.string ⟨⟨[110, 101]⟩⟩), (.string ⟨⟨[108, 116]⟩⟩), (.string ⟨⟨[108, 101]⟩⟩), (.string ⟨⟨[108, 116, 117]⟩⟩), (.string ⟨⟨[97, 100, 100, 105]⟩⟩), (.string ⟨⟨[108, 100]⟩⟩), (.string ⟨⟨[115, 116]⟩⟩), (.string ⟨⟨[108, 100, 115]⟩⟩), (.string ⟨⟨[115, 116, 115]⟩⟩)], rfl, rfl, ⟨[(.string ⟨⟨[110, 101, 103]⟩⟩)], [(.string ⟨⟨[110, 111, 116]⟩⟩), (.string ⟨⟨[97, 100, 100]⟩⟩), (.string ⟨⟨[115, 117, 98]⟩⟩), (.string ⟨⟨[109, 117, 108]⟩⟩), (.string ⟨⟨[100, 105, 118]⟩⟩), (.string ⟨⟨[114, 101, 109]⟩⟩), (.string ⟨⟨[97, 110, 100]⟩⟩), (.string ⟨⟨[111, 114]⟩⟩), (.string ⟨⟨[120, 111, 114]⟩⟩), (.string ⟨⟨[115, 104, 108]⟩⟩), (.string ⟨⟨[115, 104, 114]⟩⟩), (.string ⟨⟨[115, 97, 114]⟩⟩), (.string ⟨⟨[101, 113]⟩⟩), (.string ⟨⟨[110, 101]⟩⟩), (.string ⟨⟨[108, 116]⟩⟩), (.string ⟨⟨[108, 101]⟩⟩), (.string ⟨⟨[108, 116, 117]⟩⟩), (.string ⟨⟨[97, 100, 100, 105]⟩⟩), (.string ⟨⟨[108, 100]⟩⟩), (.string ⟨⟨[115, 116]⟩⟩), (.string ⟨⟨[108, 100, 115]⟩⟩), (.string ⟨⟨[115, 116, 115]⟩⟩)], rfl, rfl, ⟨[(.string ⟨⟨[110, 111, 116]⟩⟩)], [(.string ⟨⟨[97, 100, 100]⟩⟩), (.string ⟨⟨[115, 117, 98]⟩⟩), (.string ⟨⟨[109, 117, 108]⟩⟩), (.string ⟨⟨[100, 105, 118]⟩⟩), (.string ⟨⟨[114, 101, 109]⟩⟩), (.string ⟨⟨[97, 110, 100]⟩⟩), (.string ⟨⟨[111, 114]⟩⟩), (.string ⟨⟨[120, 111, 114]⟩⟩), (.string ⟨⟨[115, 104, 108]⟩⟩), (.string ⟨⟨[115, 104, 114]⟩⟩), (.string ⟨⟨[115, 97, 114]⟩⟩), (.string ⟨⟨[101, 113]⟩⟩), (.string ⟨⟨[110, 101]⟩⟩), (.string ⟨⟨[108, 116]⟩⟩), (.string ⟨⟨[108, 101]⟩⟩), (.string ⟨⟨[108, 116, 117]⟩⟩), (.string ⟨⟨[97, 100, 100, 105]⟩⟩), (.string ⟨⟨[108, 100]⟩⟩), (.string ⟨⟨[115, 116]⟩⟩), (.string ⟨⟨[108, 100, 115]⟩⟩), (.string ⟨⟨[115, 116, 115]⟩⟩)], rfl, rfl, ⟨[(.string ⟨⟨[97, 100, 100]⟩⟩)], [(.string ⟨⟨[115, 117, 98]⟩⟩), (.string ⟨⟨[109, 117, 108]⟩⟩), (.string ⟨⟨[100, 105, 118]⟩⟩), (.string ⟨⟨[114, 101, 109]⟩⟩), (.string ⟨⟨[97, 110, 100]⟩⟩), (.string ⟨⟨[111, 114]⟩⟩), (.string ⟨⟨[120, 111, 114]⟩⟩), (.string ⟨⟨[115, 104, 108]⟩⟩), (.string ⟨⟨[115, 104, 114]⟩⟩), (.string ⟨⟨[115, 97, 114]⟩⟩), (.string ⟨⟨[101, 113]⟩⟩), (.string ⟨⟨[110, 101]⟩⟩), (.string ⟨⟨[108, 116]⟩⟩), (.string ⟨⟨[108, 101]⟩⟩), (.string ⟨⟨[108, 116, 117]⟩⟩), (.string ⟨⟨[97, 100, 100, 105]⟩⟩), (.string ⟨⟨[108, 100]⟩⟩), (.string ⟨⟨[115, 116]⟩⟩), (.string ⟨⟨[108, 100, 115]⟩⟩), (.string ⟨⟨[115, 116, 115]⟩⟩)], rfl, rfl, ⟨[(.string ⟨⟨[115, 117, 98]⟩⟩)], [(.string ⟨⟨[109, 117, 108]⟩⟩), (.string ⟨⟨[100, 105, 118]⟩⟩), (.string ⟨⟨[114, 101, 109]⟩⟩), (.string ⟨⟨[97, 110, 100]⟩⟩), (.string ⟨⟨[111, 114]⟩⟩), (.string ⟨⟨[120, 111, 114]⟩⟩), (.string ⟨⟨[115, 104, 108]⟩⟩), (.string ⟨⟨[115, 104, 114]⟩⟩), (.string ⟨⟨[115, 97, 114]⟩⟩), (.string ⟨⟨[101, 113]⟩⟩), (.string ⟨⟨[110, 101]⟩⟩), (.string ⟨⟨[108, 116]⟩⟩), (.string ⟨⟨[108, 101]⟩⟩), (.string ⟨⟨[108, 116, 117]⟩⟩), (.string ⟨⟨[97, 100, 100, 105]⟩⟩), (.string ⟨⟨[108, 100]⟩⟩), (.string ⟨⟨[115, 116]⟩⟩), (.string ⟨⟨[108, 100, 115]⟩⟩), (.string ⟨⟨[115, 116, 115]⟩⟩)], rfl, rfl, ⟨[(.string ⟨⟨[109, 117, 108]⟩⟩)], [(.string ⟨⟨[100, 105, 118]⟩⟩), (.string ⟨⟨[114, 101, 109]⟩⟩), (.string ⟨⟨[97, 110, 100]⟩⟩), (.string ⟨⟨[111, 114]⟩⟩), (.string ⟨⟨[120, 111, 114]⟩⟩), (.string ⟨⟨[115, 104, 108]⟩⟩), (.string ⟨⟨[115, 104, 114]⟩⟩), (.string ⟨⟨[115, 97, 114]⟩⟩), (.string ⟨⟨[101, 113]⟩⟩), (.string ⟨⟨[110, 101]⟩⟩), (.string ⟨⟨[108, 116]⟩⟩), (.string ⟨⟨[108, 101]⟩⟩), (.string ⟨⟨[108, 116, 117]⟩⟩), (.string ⟨⟨[97, 100, 100, 105]⟩⟩), (.string ⟨⟨[108, 100]⟩⟩), (.string ⟨⟨[115, 116]⟩⟩), (.string ⟨⟨[108, 100, 115]⟩⟩), (.string ⟨⟨[115, 116, 115]⟩⟩)], rfl, rfl, ⟨[(.string ⟨⟨[100, 105, 118]⟩⟩)], [(.string ⟨⟨[114, 101, 109]⟩⟩), (.string ⟨⟨[97, 110, 100]⟩⟩), (.string ⟨⟨[111, 114]⟩⟩), (.string ⟨⟨[120, 111, 114]⟩⟩), (.string ⟨⟨[115, 104, 108]⟩⟩), (.string ⟨⟨[115, 104, 114]⟩⟩), (.string ⟨⟨[115, 97, 114]⟩⟩), (.string ⟨⟨[101, 113]⟩⟩), (.string ⟨⟨[110, 101]⟩⟩), (.string ⟨⟨[108, 116]⟩⟩), (.string ⟨⟨[108, 101]⟩⟩), (.string ⟨⟨[108, 116, 117]⟩⟩), (.string ⟨⟨[97, 100, 100, 105]⟩⟩), (.string ⟨⟨[108, 100]⟩⟩), (.string ⟨⟨[115, 116]⟩⟩), (.string ⟨⟨[108, 100, 115]⟩⟩), (.string ⟨⟨[115, 116, 115]⟩⟩)], rfl, rfl, ⟨[(.string ⟨⟨[114, 101, 109]⟩⟩)], [(.string ⟨⟨[97, 110, 100]⟩⟩), (.string ⟨⟨[111, 114]⟩⟩), (.string ⟨⟨[120, 111, 114]⟩⟩), (.string ⟨⟨[115, 104, 108]⟩⟩), (.string ⟨⟨[115, 104, 114]⟩⟩), (.string ⟨⟨[115, 97, 114]⟩⟩), (.string ⟨⟨[101, 113]⟩⟩), (.string ⟨⟨[110, 101]⟩⟩), (.string ⟨⟨[108, 116]⟩⟩), (.string ⟨⟨[108, 101]⟩⟩), (.string ⟨⟨[108, 116, 117]⟩⟩), (.string ⟨⟨[97, 100, 100, 105]⟩⟩), (.string ⟨⟨[108, 100]⟩⟩), (.string ⟨⟨[115, 116]⟩⟩), (.string ⟨⟨[108, 100, 115]⟩⟩), (.string ⟨⟨[115, 116, 115]⟩⟩)], rfl, rfl, ⟨[(.string ⟨⟨[97, 110, 100]⟩⟩)], [(.string ⟨⟨[111, 114]⟩⟩), (.string ⟨⟨[120, 111, 114]⟩⟩), (.string ⟨⟨[115, 104, 108]⟩⟩), (.string ⟨⟨[115, 104, 114]⟩⟩), (.string ⟨⟨[115, 97, 114]⟩⟩), (.string ⟨⟨[101, 113]⟩⟩), (.string ⟨⟨[110, 101]⟩⟩), (.string ⟨⟨[108, 116]⟩⟩), (.string ⟨⟨[108, 101]⟩⟩), (.string ⟨⟨[108, 116, 117]⟩⟩), (.string ⟨⟨[97, 100, 100, 105]⟩⟩), (.string ⟨⟨[108, 100]⟩⟩), (.string ⟨⟨[115, 116]⟩⟩), (.string ⟨⟨[108, 100, 115]⟩⟩), (.string ⟨⟨[115, 116, 115]⟩⟩)], rfl, rfl, ⟨[(.string ⟨⟨[111, 114]⟩⟩)], [(.string ⟨⟨[120, 111, 114]⟩⟩), (.string ⟨⟨[115, 104, 108]⟩⟩), (.string ⟨⟨[115, 104, 114]⟩⟩), (.string ⟨⟨[115, 97, 114]⟩⟩), (.string ⟨⟨[101, 113]⟩⟩), (.string ⟨⟨[110, 101]⟩⟩), (.string ⟨⟨[108, 116]⟩⟩), (.string ⟨⟨[108, 101]⟩⟩), (.string ⟨⟨[108, 116, 117]⟩⟩), (.string ⟨⟨[97, 100, 100, 105]⟩⟩), (.string ⟨⟨[108, 100]⟩⟩), (.string ⟨⟨[115, 116]⟩⟩), (.string ⟨⟨[108, 100, 115]⟩⟩), (.string ⟨⟨[115, 116, 115]⟩⟩)], rfl, rfl, ⟨[(.string ⟨⟨[120, 111, 114]⟩⟩)], [(.string ⟨⟨[115, 104, 108]⟩⟩), (.string ⟨⟨[115, 104, 114]⟩⟩), (.string ⟨⟨[115, 97, 114]⟩⟩), (.string ⟨⟨[101, 113]⟩⟩), (.string ⟨⟨[110, 101]⟩⟩), (.string ⟨⟨[108, 116]⟩⟩), (.string ⟨⟨[108, 101]⟩⟩), (.string ⟨⟨[108, 116, 117]⟩⟩), (.string ⟨⟨[97, 100, 100, 105]⟩⟩), (.string ⟨⟨[108, 100]⟩⟩), (.string ⟨⟨[115, 116]⟩⟩), (.string ⟨⟨[108, 100, 115]⟩⟩), (.string ⟨⟨[115, 116, 115]⟩⟩)], rfl, rfl, ⟨[(.string ⟨⟨[115, 104, 108]⟩⟩)], [(.string ⟨⟨[115, 104, 114]⟩⟩), (.string ⟨⟨[115, 97, 114]⟩⟩), (.string ⟨⟨[101, 113]⟩⟩), (.string ⟨⟨[110, 101]⟩⟩), (.string ⟨⟨[108, 116]⟩⟩), (.string ⟨⟨[108, 101]⟩⟩), (.string ⟨⟨[108, 116, 117]⟩⟩), (.string ⟨⟨[97, 100, 100, 105]⟩⟩), (.string ⟨⟨[108, 100]⟩⟩), (.string ⟨⟨[115, 116]⟩⟩), (.string ⟨⟨[108, 100, 115]⟩⟩), (.string ⟨⟨[115, 116, 115]⟩⟩)], rfl, rfl, ⟨[(.string ⟨⟨[115, 104, 114]⟩⟩)], [(.string ⟨⟨[115, 97, 114]⟩⟩), (.string ⟨⟨[101, 113]⟩⟩), (.string ⟨⟨[110, 101]⟩⟩), (.string ⟨⟨[108, 116]⟩⟩), (.string ⟨⟨[108, 101]⟩⟩), (.string ⟨⟨[108, 116, 117]⟩⟩), (.string ⟨⟨[97, 100, 100, 105]⟩⟩), (.string ⟨⟨[108, 100]⟩⟩), (.string ⟨⟨[115, 116]⟩⟩), (.string ⟨⟨[108, 100, 115]⟩⟩), (.string ⟨⟨[115, 116, 115]⟩⟩)], rfl, rfl, ⟨[(.string ⟨⟨[115, 97, 114]⟩⟩)], [(.string ⟨⟨[101, 113]⟩⟩), (.string ⟨⟨[110, 101]⟩⟩), (.string ⟨⟨[108, 116]⟩⟩), (.string ⟨⟨[108, 101]⟩⟩), (.string ⟨⟨[108, 116, 117]⟩⟩), (.string ⟨⟨[97, 100, 100, 105]⟩⟩), (.string ⟨⟨[108, 100]⟩⟩), (.string ⟨⟨[115, 116]⟩⟩), (.string ⟨⟨[108, 100, 115]⟩⟩), (.string ⟨⟨[115, 116, 115]⟩⟩)], rfl, rfl, ⟨[(.string ⟨⟨[101, 113]⟩⟩)], [(.string ⟨⟨[110, 101]⟩⟩), (.string ⟨⟨[108, 116]⟩⟩), (.string ⟨⟨[108, 101]⟩⟩), (.string ⟨⟨[108, 116, 117]⟩⟩), (.string ⟨⟨[97, 100, 100, 105]⟩⟩), (.string ⟨⟨[108, 100]⟩⟩), (.string ⟨⟨[115, 116]⟩⟩), (.string ⟨⟨[108, 100, 115]⟩⟩), (.string ⟨⟨[115, 116, 115]⟩⟩)], rfl, rfl, ⟨[(.string ⟨⟨[110, 101]⟩⟩)], [(.string ⟨⟨[108, 116]⟩⟩), (.string ⟨⟨[108, 101]⟩⟩), (.string ⟨⟨[108, 116, 117]⟩⟩), (.string ⟨⟨[97, 100, 100, 105]⟩⟩), (.string ⟨⟨[108, 100]⟩⟩), (.string ⟨⟨[115, 116]⟩⟩), (.string ⟨⟨[108, 100, 115]⟩⟩), (.string ⟨⟨[115, 116, 115]⟩⟩)], rfl, rfl, ⟨[(.string ⟨⟨[108, 116]⟩⟩)], [(.string ⟨⟨[108, 101]⟩⟩), (.string ⟨⟨[108, 116, 117]⟩⟩), (.string ⟨⟨[97, 100, 100, 105]⟩⟩), (.string ⟨⟨[108, 100]⟩⟩), (.string ⟨⟨[115, 116]⟩⟩), (.string ⟨⟨[108, 100, 115]⟩⟩), (.string ⟨⟨[115, 116, 115]⟩⟩)], rfl, rfl, ⟨[(.string ⟨⟨[108, 101]⟩⟩)], [(.string ⟨⟨[108, 116, 117]⟩⟩), (.string ⟨⟨[97, 100, 100, 105]⟩⟩), (.string ⟨⟨[108, 100]⟩⟩), (.string ⟨⟨[115, 116]⟩⟩), (.string ⟨⟨[108, 100, 115]⟩⟩), (.string ⟨⟨[115, 116, 115]⟩⟩)], rfl, rfl, ⟨[(.string ⟨⟨[108, 116, 117]⟩⟩)], [(.string ⟨⟨[97, 100, 100, 105]⟩⟩), (.string ⟨⟨[108, 100]⟩⟩), (.string ⟨⟨[115, 116]⟩⟩), (.string ⟨⟨[108, 100, 115]⟩⟩), (.string ⟨⟨[115, 116, 115]⟩⟩)], rfl, rfl, ⟨[(.string ⟨⟨[97, 100, 100, 105]⟩⟩)], [(.string ⟨⟨[108, 100]⟩⟩), (.string ⟨⟨[115, 116]⟩⟩), (.string ⟨⟨[108, 100, 115]⟩⟩), (.string ⟨⟨[115, 116, 115]⟩⟩)], rfl, rfl, ⟨[(.string ⟨⟨[108, 100]⟩⟩)], [(.string ⟨⟨[115, 116]⟩⟩), (.string ⟨⟨[108, 100, 115]⟩⟩), (.string ⟨⟨[115, 116, 115]⟩⟩)], rfl, rfl, ⟨[(.string ⟨⟨[115, 116]⟩⟩)], [(.string ⟨⟨[108, 100, 115]⟩⟩), (.string ⟨⟨[115, 116, 115]⟩⟩)], rfl, rfl, ⟨[(.string ⟨⟨[108, 100, 115]⟩⟩)], [(.string ⟨⟨[115, 116, 115]⟩⟩)], rfl, rfl, ⟨[(.string ⟨⟨[115, 116, 115]⟩⟩)], [], rfl, rfl, rfl⟩⟩⟩⟩⟩⟩⟩⟩⟩⟩⟩⟩⟩⟩⟩⟩⟩⟩⟩⟩⟩⟩⟩⟩⟩⟩⟩⟩⟩⟩⟩⟩⟩⟩⟩⟩⟩⟩ rfl) rfl rfl ?_
  rintro _ H3 p2 ⟨a2, k2, rfl, ho2, hs3, _⟩
  have hs3 : HS _ _ _ [p2] _ := hs3
  refine wa (.slice a2 ([⟨[]⟩, ⟨[110, 111, 112]⟩, ⟨[114, 101, 116]⟩, ⟨[116, 105, 99, 107]⟩, ⟨[116, 114, 97, 112]⟩, ⟨[106, 109, 112]⟩, ⟨[99, 97, 108, 108]⟩, ⟨[106, 122]⟩, ⟨[106, 110, 122]⟩, ⟨[111, 117, 116]⟩, ⟨[109, 111, 118]⟩, ⟨[99, 109, 111, 118, 122]⟩, ⟨[99, 109, 111, 118, 110, 122]⟩, ⟨[108, 100, 105]⟩, ⟨[108, 100, 99]⟩, ⟨[110, 101, 103]⟩, ⟨[110, 111, 116]⟩, ⟨[97, 100, 100]⟩, ⟨[115, 117, 98]⟩, ⟨[109, 117, 108]⟩, ⟨[100, 105, 118]⟩, ⟨[114, 101, 109]⟩, ⟨[97, 110, 100]⟩, ⟨[111, 114]⟩, ⟨[120, 111, 114]⟩, ⟨[115, 104, 108]⟩, ⟨[115, 104, 114]⟩, ⟨[115, 97, 114]⟩, ⟨[101, 113]⟩, ⟨[110, 101]⟩, ⟨[108, 116]⟩, ⟨[108, 101]⟩, ⟨[108, 116, 117]⟩, ⟨[97, 100, 100, 105]⟩, ⟨[108, 100]⟩, ⟨[115, 116]⟩, ⟨[108, 100, 115]⟩, ⟨[115, 116, 115]⟩] : List Str).length k2) rfl rfl rfl ?_
  refine wo_end 1 rfl ?_
  refine wk_ret ⟨.inr rfl, _, rfl, a2, k2, ([⟨[]⟩, ⟨[110, 111, 112]⟩, ⟨[114, 101, 116]⟩, ⟨[116, 105, 99, 107]⟩, ⟨[116, 114, 97, 112]⟩, ⟨[106, 109, 112]⟩, ⟨[99, 97, 108, 108]⟩, ⟨[106, 122]⟩, ⟨[106, 110, 122]⟩, ⟨[111, 117, 116]⟩, ⟨[109, 111, 118]⟩, ⟨[99, 109, 111, 118, 122]⟩, ⟨[99, 109, 111, 118, 110, 122]⟩, ⟨[108, 100, 105]⟩, ⟨[108, 100, 99]⟩, ⟨[110, 101, 103]⟩, ⟨[110, 111, 116]⟩, ⟨[97, 100, 100]⟩, ⟨[115, 117, 98]⟩, ⟨[109, 117, 108]⟩, ⟨[100, 105, 118]⟩, ⟨[114, 101, 109]⟩, ⟨[97, 110, 100]⟩, ⟨[111, 114]⟩, ⟨[120, 111, 114]⟩, ⟨[115, 104, 108]⟩, ⟨[115, 104, 114]⟩, ⟨[115, 97, 114]⟩, ⟨[101, 113]⟩, ⟨[110, 101]⟩, ⟨[108, 116]⟩, ⟨[108, 101]⟩, ⟨[108, 116, 117]⟩, ⟨[97, 100, 100, 105]⟩, ⟨[108, 100]⟩, ⟨[115, 116]⟩, ⟨[108, 100, 115]⟩, ⟨[115, 116, 115]⟩] : List Str), p2, _, (Fz.le_refl _), (HS.only hs3 (i := 0) rfl), rfl, ho2, (by first | rfl | omega | simp_all)⟩

theorem rInfo_c (ex : FuncId) (op : Int) {F : Fz} {H : Heap} {R : List Fp} (hs : HS (.of H []) F H [] R) (hop : in64 op) (hT : TB 37 tabC F) : C Tryd.prog 1 (KT 60 ex 37 tabC) 73 [(.int .i64 op)] H fun v H' => ∃ (x : InfT) (o : Bool) (F' : Fz), Fz.le F F' ∧ HS (.of H []) F' H' [] R ∧ v = .tuple ⟨[.agg ⟨[.string ⟨⟨x.name.b⟩⟩, .int .i64 x.form, .bool x.ra, .bool x.wa, .bool x.rb, .bool x.mt, .int .i64 x.words]⟩, .bool o]⟩ ∧ in64 x.form ∧ in64 x.words ∧ x = infV op ∧ o = infO op := by
  have nl : namesL.length = 38 := rfl
  refine c_enter Tryd.func73 rfl rfl ?_
  refine wk_foc 1 rfl ?_
  refine wk_region ?_
  refine wo_rs (rs_new hs rfl) rfl rfl ?_
  rintro _ H2 _ ⟨b1, rfl, hs2, _⟩
  have hs2 : HS _ _ _ [[(b1, .cells [(.string ⟨⟨[]⟩⟩), (.int .i64 0), (.bool false), (.bool false), (.bool false), (.bool false), (.int .i64 0)] none false)]] _ := hs2
  refine wa (.bool false) rfl rfl rfl ?_
  refine wo_end 2 rfl ?_
  have fq3 := form_imp op
  refine wr 3 [(1, .o (.int .i64 (formV op)))] 8 9 [4] [(4, (.int .i64 (formV op)))] (vA (form_c_q ex op H2) trivial) (by kernel_rfl) rfl fun gg4 => ?_
  refine wr 1 [] 10 11 [] [(11, (.bool (formV op == 0)))] trivial (by kernel_rfl) rfl fun gg5 => ?_
  refine wk_if 1 2 (v := (formV op == 0)) rfl rfl rfl rfl (fun c6b => ?_) (fun c6b => ?_)
  · have c6 := c6b
    try simp only [BS] at c6
    refine wk_region ?_
    refine wro 1 0 [] 12 12 [] [(12, (.agg ⟨[(.string ⟨⟨[]⟩⟩), (.int .i64 0), (.bool false), (.bool false), (.bool false), (.bool false), (.int .i64 0)]⟩))] trivial (by kernel_rfl) rfl fun gg7 => ?_
    refine wo_rk (rs_rec (q := 0) hs2 rfl rfl rfl rfl rfl rfl rfl rfl rfl) rfl ?_
    rintro _ H8 _ ⟨hs8, _⟩
    have hs8 : HS _ _ _ [_] _ := hs8
    refine wa (.bool false) rfl rfl rfl ?_
    refine wo_end 1 rfl ?_
    refine wk_ret ⟨.inr rfl, _, (rC rfl (ldVN rfl rfl (HS.hc hs8 (i := 0) rfl) rfl) (rT rfl rN)), (⟨⟨[]⟩, 0, false, false, false, false, 0⟩ : InfT), false, _, (Fz.le_refl _), (HS.forget hs8), rfl, (by first | omega | (dsimp only; omega)), (by first | omega | (dsimp only; omega)), (by first | exact infV_no (op := op) (by omega) | (rw [hw]; obtain ⟨k, hk⟩ := ex37 (op := op) ⟨by omega, by omega⟩; rw [hk]; clear hk; revert k; decide +kernel)), (by first | exact (infO_no (op := op) (by omega)).symm | exact (infO_at (op := op) (by omega)).symm)⟩
  · have c6 := c6b
    try simp only [BS] at c6
    refine wk_region ?_
    refine wo_call (ap_call rfl rfl rfl) rfl rfl (names_c ex (HS.call hs2) hT) ?_
    rintro _ H9 ⟨ar9, kr9, r9, p9, F9, hF9, hs9, rfl, hrr9, rfl⟩
    replace hs9 := HS.back hs2 rfl hs9
    have hs9 : HS _ _ _ [_, p9] _ := hs9
    replace hT := hT.mono hF9
    obtain ⟨cf10, hv10⟩ := Sv.view (OS.sv hrr9 hs9 (i := 1) rfl)
    refine wro 5 1 [(3, .o (.string ⟨⟨(namesL.getD op.toNat default).b⟩⟩))] 14 18 [] [(18, (.agg ⟨[(.string ⟨⟨(namesL.getD op.toNat default).b⟩⟩), (.int .i64 (formV op)), (.bool false), (.bool false), (.bool false), (.bool false), (.int .i64 1)]⟩))] (vA (Sv.ix (j := op) (OS.sv hrr9 hs9 (i := 1) rfl) (by first | omega | (dsimp only; omega)) (by first | omega | (dsimp only; omega))) (vA (ql 9 0 (vS (hv10 op.toNat) (by first | omega | (dsimp only; omega))) rfl rfl) trivial)) (by kernel_rfl) rfl fun gg12 => ?_
    refine wo_rs (rs_new hs9 rfl) rfl rfl ?_
    rintro _ H14 _ ⟨b13, rfl, hs14, _⟩
    have hs14 : HS _ _ _ [_, _, [(b13, .cells [(.string ⟨⟨[]⟩⟩), (.int .i64 0), (.bool false), (.bool false), (.bool false), (.bool false), (.int .i64 0)] none false)]] _ := hs14
    refine wo_rk (rs_rec (q := 2) hs14 rfl rfl rfl rfl rfl rfl rfl rfl rfl) rfl ?_
    rintro _ H15 _ ⟨hs15, _⟩
    have hs15 : HS _ _ _ [_, _, [(b13, .cells [(.string ⟨⟨(namesL.getD op.toNat default).b⟩⟩), (.int .i64 (formV op)), (.bool false), (.bool false), (.bool false), (.bool false), (.int .i64 1)] none false)]] _ := hs15
    refine wo_end 3 rfl ?_
    refine wr 1 [] 19 20 [] [(20, (.bool (op == 14)))] trivial (by kernel_rfl) rfl fun gg16 => ?_
    refine wk_join (fun f H' => ∃ (w1 : Int) (F' : Fz), Fz.le F9 F' ∧ HS (Base.of H []) F' H' [[(b1, .cells [(.string ⟨⟨[]⟩⟩), (.int .i64 0), (.bool false), (.bool false), (.bool false), (.bool false), (.int .i64 0)] none false)], p9, [(b13, .cells [(.string ⟨⟨(namesL.getD op.toNat default).b⟩⟩), (.int .i64 (formV op)), (.bool false), (.bool false), (.bool false), (.bool false), (.int .i64 w1)] none false)]] R ∧ agrees f [(0, (.int .i64 op)), (2, (.pointer (some ⟨b1, 0, none⟩))), (3, (.bool false)), (5, (.pointer (some ⟨b13, 0, none⟩)))] ∧ (w1 = if op = 14 then 3 else 1) ∧ (in64 w1)) (fun jn17 => ?_) ?_
    · skip
      refine wk_if 0 0 (v := (op == 14)) rfl rfl rfl rfl (fun c18b => ?_) (fun c18b => ?_)
      · have c18 := c18b
        try simp only [BS] at c18
        refine wk_region ?_
        refine wro 1 0 [] 21 21 [] [(21, (.pointer (some ⟨b13, 6, none⟩)))] trivial (by kernel_rfl) rfl fun gg19 => ?_
        refine wo_rk (rs_rec (q := 2) hs15 rfl rfl rfl rfl rfl rfl rfl rfl rfl) rfl ?_
        rintro _ H20 _ ⟨hs20, _⟩
        have hs20 : HS _ _ _ [_, _, [(b13, .cells [(.string ⟨⟨(namesL.getD op.toNat default).b⟩⟩), (.int .i64 (formV op)), (.bool false), (.bool false), (.bool false), (.bool false), (.int .i64 3)] none false)]] _ := hs20
        refine wo_end 0 rfl ?_
        exact jn17 _ _ ⟨3, _, (Fz.le_refl _), hs20, (agC rfl (agC rfl (agC rfl (agC rfl agN)))), (by first | (rw [if_pos (by omega)]) | (rw [if_neg (by omega)])), (by first | assumption | omega | (simp at *; omega))⟩
      · have c18 := c18b
        try simp only [BS] at c18
        exact jn17 _ _ ⟨1, _, (Fz.le_refl _), hs15, (agC rfl (agC rfl (agC rfl (agC rfl agN)))), (by first | (rw [if_pos (by omega)]) | (rw [if_neg (by omega)])), (by first | assumption | omega | (simp at *; omega))⟩
    · skip
      rintro f17 H17 ⟨w1, F17, hF17, hs17, hf17, hw, hwr⟩
      refine wk_canon _ hf17 (fun gg17 => ?_)
      clear hf17
      replace hT := hT.mono hF17
      refine wk_foc 2 rfl ?_
      refine wr 2 [] 22 27 [6] [(6, (.bool ((op == 11) || (op == 12))))] trivial (by kernel_rfl) rfl fun gg21 => ?_
      refine wr 2 [] 28 33 [7] [(7, (.bool ((op == 15) || (op == 16))))] trivial (by kernel_rfl) rfl fun gg22 => ?_
      refine wk_region ?_
      refine wro 33 0 [(6, .o (.bool (decide (17 ≤ op ∧ op ≤ 32))))] 34 66 [] [(65, (.bool ((((((((((op == 11) || (op == 12)) || ((op == 15) || (op == 16))) || decide (17 ≤ op ∧ op ≤ 32)) || (op == 7)) || (op == 8)) || (op == 9)) || (op == 33)) || (op == 35)) || (op == 37)))), (66, (.pointer (some ⟨b13, 2, none⟩)))] (vA (fun (g1 : (((op == 11) || (op == 12)) || ((op == 15) || (op == 16))) = false) => (isBin_c_q ex op H17)) trivial) (by kernel_rfl) rfl fun gg23 => ?_
      refine wo_rk (rs_rec (q := 2) hs17 rfl rfl rfl rfl rfl rfl rfl rfl rfl) rfl ?_
      rintro _ H24 _ ⟨hs24, _⟩
      have hs24 : HS _ _ _ [_, _, [(b13, .cells [(.string ⟨⟨(namesL.getD op.toNat default).b⟩⟩), (.int .i64 (formV op)), (.bool ((((((((((op == 11) || (op == 12)) || ((op == 15) || (op == 16))) || decide (17 ≤ op ∧ op ≤ 32)) || (op == 7)) || (op == 8)) || (op == 9)) || (op == 33)) || (op == 35)) || (op == 37))), (.bool false), (.bool false), (.bool false), (.int .i64 w1)] none false)]] _ := hs24
      refine wo_end 2 rfl ?_
      refine wk_region ?_
      refine wro 33 0 [(6, .o (.bool (decide (17 ≤ op ∧ op ≤ 32))))] 67 99 [] [(98, (.bool ((((((((((op == 11) || (op == 12)) || ((op == 15) || (op == 16))) || decide (17 ≤ op ∧ op ≤ 32)) || (op == 10)) || (op == 13)) || (op == 14)) || (op == 33)) || (op == 34)) || (op == 36)))), (99, (.pointer (some ⟨b13, 3, none⟩)))] (vA (fun (g1 : (((op == 11) || (op == 12)) || ((op == 15) || (op == 16))) = false) => (isBin_c_q ex op H24)) trivial) (by kernel_rfl) rfl fun gg25 => ?_
      refine wo_rk (rs_rec (q := 2) hs24 rfl rfl rfl rfl rfl rfl rfl rfl rfl) rfl ?_
      rintro _ H26 _ ⟨hs26, _⟩
      have hs26 : HS _ _ _ [_, _, [(b13, .cells [(.string ⟨⟨(namesL.getD op.toNat default).b⟩⟩), (.int .i64 (formV op)), (.bool ((((((((((op == 11) || (op == 12)) || ((op == 15) || (op == 16))) || decide (17 ≤ op ∧ op ≤ 32)) || (op == 7)) || (op == 8)) || (op == 9)) || (op == 33)) || (op == 35)) || (op == 37))), (.bool ((((((((((op == 11) || (op == 12)) || ((op == 15) || (op == 16))) || decide (17 ≤ op ∧ op ≤ 32)) || (op == 10)) || (op == 13)) || (op == 14)) || (op == 33)) || (op == 34)) || (op == 36))), (.bool false), (.bool false), (.int .i64 w1)] none false)]] _ := hs26
      refine wo_end 2 rfl ?_
      refine wk_region ?_
      refine wro 18 0 [(3, .o (.bool (decide (17 ≤ op ∧ op ≤ 32))))] 100 117 [] [(116, (.bool ((((((op == 11) || (op == 12)) || decide (17 ≤ op ∧ op ≤ 32)) || (op == 10)) || (op == 34)) || (op == 35)))), (117, (.pointer (some ⟨b13, 4, none⟩)))] (vA (fun (g1 : ((op == 11) || (op == 12)) = false) => (isBin_c_q ex op H26)) trivial) (by kernel_rfl) rfl fun gg27 => ?_
      refine wo_rk (rs_rec (q := 2) hs26 rfl rfl rfl rfl rfl rfl rfl rfl rfl) rfl ?_
      rintro _ H28 _ ⟨hs28, _⟩
      have hs28 : HS _ _ _ [_, _, [(b13, .cells [(.string ⟨⟨(namesL.getD op.toNat default).b⟩⟩), (.int .i64 (formV op)), (.bool ((((((((((op == 11) || (op == 12)) || ((op == 15) || (op == 16))) || decide (17 ≤ op ∧ op ≤ 32)) || (op == 7)) || (op == 8)) || (op == 9)) || (op == 33)) || (op == 35)) || (op == 37))), (.bool ((((((((((op == 11) || (op == 12)) || ((op == 15) || (op == 16))) || decide (17 ≤ op ∧ op ≤ 32)) || (op == 10)) || (op == 13)) || (op == 14)) || (op == 33)) || (op == 34)) || (op == 36))), (.bool ((((((op == 11) || (op == 12)) || decide (17 ≤ op ∧ op ≤ 32)) || (op == 10)) || (op == 34)) || (op == 35))), (.bool false), (.int .i64 w1)] none false)]] _ := hs28
      refine wo_end 2 rfl ?_
      refine wk_region ?_
      refine wro 19 0 [] 118 136 [] [(135, (.bool (((((op == 4) || (op == 20)) || (op == 21)) || (op == 34)) || (op == 35)))), (136, (.pointer (some ⟨b13, 5, none⟩)))] trivial (by kernel_rfl) rfl fun gg29 => ?_
      refine wo_rk (rs_rec (q := 2) hs28 rfl rfl rfl rfl rfl rfl rfl rfl rfl) rfl ?_
      rintro _ H30 _ ⟨hs30, _⟩
      have hs30 : HS _ _ _ [_, _, [(b13, .cells [(.string ⟨⟨(namesL.getD op.toNat default).b⟩⟩), (.int .i64 (formV op)), (.bool ((((((((((op == 11) || (op == 12)) || ((op == 15) || (op == 16))) || decide (17 ≤ op ∧ op ≤ 32)) || (op == 7)) || (op == 8)) || (op == 9)) || (op == 33)) || (op == 35)) || (op == 37))), (.bool ((((((((((op == 11) || (op == 12)) || ((op == 15) || (op == 16))) || decide (17 ≤ op ∧ op ≤ 32)) || (op == 10)) || (op == 13)) || (op == 14)) || (op == 33)) || (op == 34)) || (op == 36))), (.bool ((((((op == 11) || (op == 12)) || decide (17 ≤ op ∧ op ≤ 32)) || (op == 10)) || (op == 34)) || (op == 35))), (.bool (((((op == 4) || (op == 20)) || (op == 21)) || (op == 34)) || (op == 35))), (.int .i64 w1)] none false)]] _ := hs30
      refine wo_end 2 rfl ?_
      refine wk_region ?_
      refine wro 1 0 [(0, .o (.agg ⟨[(.string ⟨⟨(namesL.getD op.toNat default).b⟩⟩), (.int .i64 (formV op)), (.bool ((((((((((op == 11) || (op == 12)) || ((op == 15) || (op == 16))) || decide (17 ≤ op ∧ op ≤ 32)) || (op == 7)) || (op == 8)) || (op == 9)) || (op == 33)) || (op == 35)) || (op == 37))), (.bool ((((((((((op == 11) || (op == 12)) || ((op == 15) || (op == 16))) || decide (17 ≤ op ∧ op ≤ 32)) || (op == 10)) || (op == 13)) || (op == 14)) || (op == 33)) || (op == 34)) || (op == 36))), (.bool ((((((op == 11) || (op == 12)) || decide (17 ≤ op ∧ op ≤ 32)) || (op == 10)) || (op == 34)) || (op == 35))), (.bool (((((op == 4) || (op == 20)) || (op == 21)) || (op == 34)) || (op == 35))), (.int .i64 w1)]⟩))] 137 137 [] [(137, (.agg ⟨[(.string ⟨⟨(namesL.getD op.toNat default).b⟩⟩), (.int .i64 (formV op)), (.bool ((((((((((op == 11) || (op == 12)) || ((op == 15) || (op == 16))) || decide (17 ≤ op ∧ op ≤ 32)) || (op == 7)) || (op == 8)) || (op == 9)) || (op == 33)) || (op == 35)) || (op == 37))), (.bool ((((((((((op == 11) || (op == 12)) || ((op == 15) || (op == 16))) || decide (17 ≤ op ∧ op ≤ 32)) || (op == 10)) || (op == 13)) || (op == 14)) || (op == 33)) || (op == 34)) || (op == 36))), (.bool ((((((op == 11) || (op == 12)) || decide (17 ≤ op ∧ op ≤ 32)) || (op == 10)) || (op == 34)) || (op == 35))), (.bool (((((op == 4) || (op == 20)) || (op == 21)) || (op == 34)) || (op == 35))), (.int .i64 w1)]⟩))] (vA (qn 96 0 7 (HS.hc hs30 (i := 2) rfl) rfl rfl rfl rfl) trivial) (by kernel_rfl) rfl fun gg31 => ?_
      refine wo_rk (rs_rec (q := 0) hs30 rfl rfl rfl rfl rfl rfl rfl rfl rfl) rfl ?_
      rintro _ H32 _ ⟨hs32, _⟩
      have hs32 : HS _ _ _ [[(b1, .cells [(.string ⟨⟨(namesL.getD op.toNat default).b⟩⟩), (.int .i64 (formV op)), (.bool ((((((((((op == 11) || (op == 12)) || ((op == 15) || (op == 16))) || decide (17 ≤ op ∧ op ≤ 32)) || (op == 7)) || (op == 8)) || (op == 9)) || (op == 33)) || (op == 35)) || (op == 37))), (.bool ((((((((((op == 11) || (op == 12)) || ((op == 15) || (op == 16))) || decide (17 ≤ op ∧ op ≤ 32)) || (op == 10)) || (op == 13)) || (op == 14)) || (op == 33)) || (op == 34)) || (op == 36))), (.bool ((((((op == 11) || (op == 12)) || decide (17 ≤ op ∧ op ≤ 32)) || (op == 10)) || (op == 34)) || (op == 35))), (.bool (((((op == 4) || (op == 20)) || (op == 21)) || (op == 34)) || (op == 35))), (.int .i64 w1)] none false)], _, _] _ := hs32
      refine wa (.bool true) rfl rfl rfl ?_
      refine wo_end 1 rfl ?_
      refine wk_ret ⟨.inr rfl, _, (rC rfl (ldVN rfl rfl (HS.hc hs32 (i := 0) rfl) rfl) (rT rfl rN)), (⟨⟨(namesL.getD op.toNat default).b⟩, formV op, ((((((((((op == 11) || (op == 12)) || ((op == 15) || (op == 16))) || decide (17 ≤ op ∧ op ≤ 32)) || (op == 7)) || (op == 8)) || (op == 9)) || (op == 33)) || (op == 35)) || (op == 37)), ((((((((((op == 11) || (op == 12)) || ((op == 15) || (op == 16))) || decide (17 ≤ op ∧ op ≤ 32)) || (op == 10)) || (op == 13)) || (op == 14)) || (op == 33)) || (op == 34)) || (op == 36)), ((((((op == 11) || (op == 12)) || decide (17 ≤ op ∧ op ≤ 32)) || (op == 10)) || (op == 34)) || (op == 35)), (((((op == 4) || (op == 20)) || (op == 21)) || (op == 34)) || (op == 35)), w1⟩ : InfT), true, _, (Fz.le_trans (hF9) hF17), (HS.forget hs32), rfl, (by first | omega | (dsimp only; omega)), (by first | omega | (dsimp only; omega)), (by first | exact infV_no (op := op) (by omega) | (rw [hw]; obtain ⟨k, hk⟩ := ex37 (op := op) ⟨by omega, by omega⟩; rw [hk]; clear hk; revert k; decide +kernel)), (by first | exact (infO_no (op := op) (by omega)).symm | exact (infO_at (op := op) (by omega)).symm)⟩

theorem valw_c (ex : FuncId) (op : Int) (H : Heap) : C Tryd.prog 1 (KT 60 ex 37 tabC) 74 [(.int .i64 op)] H fun v H' => ∃ (r : Bool), H' = H ∧ v = .bool r ∧ r = alV op := by
  refine c_enter Tryd.func74 rfl rfl ?_
  refine wk_foc 1 rfl ?_
  refine wr 3 [] 2 2 [] [(2, (.bool false))] trivial (by kernel_rfl) rfl fun gg1 => ?_
  refine wr 4 [] 3 3 [] [(3, (.int .i64 op))] trivial (by kernel_rfl) rfl fun gg2 => ?_
  refine wr 1 [] 4 5 [] [(4, (.bool (op == 3)))] trivial (by kernel_rfl) rfl fun gg3 => ?_
  refine wk_if 1 1 (v := (op == 3)) rfl rfl rfl rfl (fun c4b => ?_) (fun c4b => ?_)
  · have c4 := c4b
    try simp only [BS] at c4
    refine wk_ift 1 (v := (op == 3)) rfl c4b rfl rfl ?_
    refine wr 1 [] 2 2 [] [(2, (.bool true))] trivial (by kernel_rfl) rfl fun gg5 => ?_
    refine wk_ret ⟨.inr rfl, _, rfl, true, rfl, rfl, (by exact alV_of (by simp; omega))⟩
  · have c4 := c4b
    try simp only [BS] at c4
    refine wr 1 [] 4 6 [] [(4, (.bool (op == 6)))] trivial (by kernel_rfl) rfl fun gg6 => ?_
    refine wk_if 1 1 (v := (op == 6)) rfl rfl rfl rfl (fun c7b => ?_) (fun c7b => ?_)
    · have c7 := c7b
      try simp only [BS] at c7
      refine wk_ift 1 (v := (op == 6)) rfl c7b rfl rfl ?_
      refine wr 1 [] 2 2 [] [(2, (.bool true))] trivial (by kernel_rfl) rfl fun gg8 => ?_
      refine wk_ret ⟨.inr rfl, _, rfl, true, rfl, rfl, (by exact alV_of (by simp; omega))⟩
    · have c7 := c7b
      try simp only [BS] at c7
      refine wr 1 [] 4 7 [] [(4, (.bool (op == 9)))] trivial (by kernel_rfl) rfl fun gg9 => ?_
      refine wk_if 1 1 (v := (op == 9)) rfl rfl rfl rfl (fun c10b => ?_) (fun c10b => ?_)
      · have c10 := c10b
        try simp only [BS] at c10
        refine wk_ift 1 (v := (op == 9)) rfl c10b rfl rfl ?_
        refine wr 1 [] 2 2 [] [(2, (.bool true))] trivial (by kernel_rfl) rfl fun gg11 => ?_
        refine wk_ret ⟨.inr rfl, _, rfl, true, rfl, rfl, (by exact alV_of (by simp; omega))⟩
      · have c10 := c10b
        try simp only [BS] at c10
        refine wr 1 [] 4 8 [] [(4, (.bool (op == 10)))] trivial (by kernel_rfl) rfl fun gg12 => ?_
        refine wk_if 1 1 (v := (op == 10)) rfl rfl rfl rfl (fun c13b => ?_) (fun c13b => ?_)
        · have c13 := c13b
          try simp only [BS] at c13
          refine wk_ift 1 (v := (op == 10)) rfl c13b rfl rfl ?_
          refine wr 1 [] 2 2 [] [(2, (.bool true))] trivial (by kernel_rfl) rfl fun gg14 => ?_
          refine wk_ret ⟨.inr rfl, _, rfl, true, rfl, rfl, (by exact alV_of (by simp; omega))⟩
        · have c13 := c13b
          try simp only [BS] at c13
          refine wr 1 [] 4 9 [] [(4, (.bool (op == 11)))] trivial (by kernel_rfl) rfl fun gg15 => ?_
          refine wk_if 1 1 (v := (op == 11)) rfl rfl rfl rfl (fun c16b => ?_) (fun c16b => ?_)
          · have c16 := c16b
            try simp only [BS] at c16
            refine wk_ift 1 (v := (op == 11)) rfl c16b rfl rfl ?_
            refine wr 1 [] 2 2 [] [(2, (.bool true))] trivial (by kernel_rfl) rfl fun gg17 => ?_
            refine wk_ret ⟨.inr rfl, _, rfl, true, rfl, rfl, (by exact alV_of (by simp; omega))⟩
          · have c16 := c16b
            try simp only [BS] at c16
            refine wr 1 [] 4 10 [] [(4, (.bool (op == 12)))] trivial (by kernel_rfl) rfl fun gg18 => ?_
            refine wk_if 1 1 (v := (op == 12)) rfl rfl rfl rfl (fun c19b => ?_) (fun c19b => ?_)
            · have c19 := c19b
              try simp only [BS] at c19
              refine wk_ift 1 (v := (op == 12)) rfl c19b rfl rfl ?_
              refine wr 1 [] 2 2 [] [(2, (.bool true))] trivial (by kernel_rfl) rfl fun gg20 => ?_
              refine wk_ret ⟨.inr rfl, _, rfl, true, rfl, rfl, (by exact alV_of (by simp; omega))⟩
            · have c19 := c19b
              try simp only [BS] at c19
              refine wr 1 [] 4 11 [] [(4, (.bool (op == 13)))] trivial (by kernel_rfl) rfl fun gg21 => ?_
              refine wk_if 1 1 (v := (op == 13)) rfl rfl rfl rfl (fun c22b => ?_) (fun c22b => ?_)
              · have c22 := c22b
                try simp only [BS] at c22
                refine wk_ift 1 (v := (op == 13)) rfl c22b rfl rfl ?_
                refine wr 1 [] 2 2 [] [(2, (.bool true))] trivial (by kernel_rfl) rfl fun gg23 => ?_
                refine wk_ret ⟨.inr rfl, _, rfl, true, rfl, rfl, (by exact alV_of (by simp; omega))⟩
              · have c22 := c22b
                try simp only [BS] at c22
                refine wr 1 [] 4 12 [] [(4, (.bool (op == 33)))] trivial (by kernel_rfl) rfl fun gg24 => ?_
                refine wk_if 1 1 (v := (op == 33)) rfl rfl rfl rfl (fun c25b => ?_) (fun c25b => ?_)
                · have c25 := c25b
                  try simp only [BS] at c25
                  refine wk_ift 1 (v := (op == 33)) rfl c25b rfl rfl ?_
                  refine wr 1 [] 2 2 [] [(2, (.bool true))] trivial (by kernel_rfl) rfl fun gg26 => ?_
                  refine wk_ret ⟨.inr rfl, _, rfl, true, rfl, rfl, (by exact alV_of (by simp; omega))⟩
                · have c25 := c25b
                  try simp only [BS] at c25
                  refine wr 1 [] 4 13 [] [(4, (.bool (op == 34)))] trivial (by kernel_rfl) rfl fun gg27 => ?_
                  refine wk_if 1 1 (v := (op == 34)) rfl rfl rfl rfl (fun c28b => ?_) (fun c28b => ?_)
                  · have c28 := c28b
                    try simp only [BS] at c28
                    refine wk_ift 1 (v := (op == 34)) rfl c28b rfl rfl ?_
                    refine wr 1 [] 2 2 [] [(2, (.bool true))] trivial (by kernel_rfl) rfl fun gg29 => ?_
                    refine wk_ret ⟨.inr rfl, _, rfl, true, rfl, rfl, (by exact alV_of (by simp; omega))⟩
                  · have c28 := c28b
                    try simp only [BS] at c28
                    refine wr 1 [] 4 14 [] [(4, (.bool (op == 35)))] trivial (by kernel_rfl) rfl fun gg30 => ?_
                    refine wk_if 1 0 (v := (op == 35)) rfl rfl rfl rfl (fun c31b => ?_) (fun c31b => ?_)
                    · have c31 := c31b
                      try simp only [BS] at c31
                      refine wk_ift 1 (v := (op == 35)) rfl c31b rfl rfl ?_
                      refine wr 1 [] 2 2 [] [(2, (.bool true))] trivial (by kernel_rfl) rfl fun gg32 => ?_
                      refine wk_ret ⟨.inr rfl, _, rfl, true, rfl, rfl, (by exact alV_of (by simp; omega))⟩
                    · have c31 := c31b
                      try simp only [BS] at c31
                      refine wr 1 [] 4 15 [] [(4, (.bool (op == 38)))] trivial (by kernel_rfl) rfl fun gg33 => ?_
                      refine wk_if 1 3 (v := (op == 38)) rfl rfl rfl rfl (fun c34b => ?_) (fun c34b => ?_)
                      · have c34 := c34b
                        try simp only [BS] at c34
                        refine wr 1 [] 2 2 [] [(2, (.bool true))] trivial (by kernel_rfl) rfl fun gg35 => ?_
                        refine wk_ret ⟨.inr rfl, _, rfl, true, rfl, rfl, (by exact alV_of (by simp; omega))⟩
                      · have c34 := c34b
                        try simp only [BS] at c34
                        refine wr 1 [] 16 21 [2] [(2, (.bool ((decide ((15 : Int) ≤ op)) && (decide (op ≤ 32)))))] trivial (by kernel_rfl) rfl fun gg36 => ?_
                        refine wk_ret ⟨.inr rfl, _, rfl, ((decide ((15 : Int) ≤ op)) && (decide (op ≤ 32))), rfl, rfl, (by exact alV_of (by simp; omega))⟩

theorem valw_c_q (ex : FuncId) (op : Int) (H : Heap) : C Tryd.prog 1 (KT 60 ex 37 tabC) 74 [(.int .i64 op)] H fun v H' => v = (.bool (alV op)) ∧ H' = H :=
  cq (valw_c ex op H) (by rintro _ _ ⟨_, rfl, rfl, rfl⟩; exact ⟨rfl, rfl⟩)

theorem ralw_c (ex : FuncId) (op : Int) (H : Heap) : C Tryd.prog 1 (KT 60 ex 37 tabC) 64 [(.int .i64 op)] H fun v H' => ∃ (r : Bool), H' = H ∧ v = .bool r ∧ r = alV op := by
  refine c_enter Tryd.func64 rfl rfl ?_
  refine wk_foc 1 rfl ?_
  refine wr 3 [] 2 2 [] [(2, (.bool false))] trivial (by kernel_rfl) rfl fun gg1 => ?_
  refine wr 4 [] 3 3 [] [(3, (.int .i64 op))] trivial (by kernel_rfl) rfl fun gg2 => ?_
  refine wr 1 [] 4 5 [] [(4, (.bool (op == 3)))] trivial (by kernel_rfl) rfl fun gg3 => ?_
  refine wk_if 1 1 (v := (op == 3)) rfl rfl rfl rfl (fun c4b => ?_) (fun c4b => ?_)
  · have c4 := c4b
    try simp only [BS] at c4
    refine wk_ift 1 (v := (op == 3)) rfl c4b rfl rfl ?_
    refine wr 1 [] 2 2 [] [(2, (.bool true))] trivial (by kernel_rfl) rfl fun gg5 => ?_
    refine wk_ret ⟨.inr rfl, _, rfl, true, rfl, rfl, (by exact alV_of (by simp; omega))⟩
  · have c4 := c4b
    try simp only [BS] at c4
    refine wr 1 [] 4 6 [] [(4, (.bool (op == 6)))] trivial (by kernel_rfl) rfl fun gg6 => ?_
    refine wk_if 1 1 (v := (op == 6)) rfl rfl rfl rfl (fun c7b => ?_) (fun c7b => ?_)
    · have c7 := c7b
      try simp only [BS] at c7
      refine wk_ift 1 (v := (op == 6)) rfl c7b rfl rfl ?_
      refine wr 1 [] 2 2 [] [(2, (.bool true))] trivial (by kernel_rfl) rfl fun gg8 => ?_
      refine wk_ret ⟨.inr rfl, _, rfl, true, rfl, rfl, (by exact alV_of (by simp; omega))⟩
    · have c7 := c7b
      try simp only [BS] at c7
      refine wr 1 [] 4 7 [] [(4, (.bool (op == 9)))] trivial (by kernel_rfl) rfl fun gg9 => ?_
      refine wk_if 1 1 (v := (op == 9)) rfl rfl rfl rfl (fun c10b => ?_) (fun c10b => ?_)
      · have c10 := c10b
        try simp only [BS] at c10
        refine wk_ift 1 (v := (op == 9)) rfl c10b rfl rfl ?_
        refine wr 1 [] 2 2 [] [(2, (.bool true))] trivial (by kernel_rfl) rfl fun gg11 => ?_
        refine wk_ret ⟨.inr rfl, _, rfl, true, rfl, rfl, (by exact alV_of (by simp; omega))⟩
      · have c10 := c10b
        try simp only [BS] at c10
        refine wr 1 [] 4 8 [] [(4, (.bool (op == 10)))] trivial (by kernel_rfl) rfl fun gg12 => ?_
        refine wk_if 1 1 (v := (op == 10)) rfl rfl rfl rfl (fun c13b => ?_) (fun c13b => ?_)
        · have c13 := c13b
          try simp only [BS] at c13
          refine wk_ift 1 (v := (op == 10)) rfl c13b rfl rfl ?_
          refine wr 1 [] 2 2 [] [(2, (.bool true))] trivial (by kernel_rfl) rfl fun gg14 => ?_
          refine wk_ret ⟨.inr rfl, _, rfl, true, rfl, rfl, (by exact alV_of (by simp; omega))⟩
        · have c13 := c13b
          try simp only [BS] at c13
          refine wr 1 [] 4 9 [] [(4, (.bool (op == 11)))] trivial (by kernel_rfl) rfl fun gg15 => ?_
          refine wk_if 1 1 (v := (op == 11)) rfl rfl rfl rfl (fun c16b => ?_) (fun c16b => ?_)
          · have c16 := c16b
            try simp only [BS] at c16
            refine wk_ift 1 (v := (op == 11)) rfl c16b rfl rfl ?_
            refine wr 1 [] 2 2 [] [(2, (.bool true))] trivial (by kernel_rfl) rfl fun gg17 => ?_
            refine wk_ret ⟨.inr rfl, _, rfl, true, rfl, rfl, (by exact alV_of (by simp; omega))⟩
          · have c16 := c16b
            try simp only [BS] at c16
            refine wr 1 [] 4 10 [] [(4, (.bool (op == 12)))] trivial (by kernel_rfl) rfl fun gg18 => ?_
            refine wk_if 1 1 (v := (op == 12)) rfl rfl rfl rfl (fun c19b => ?_) (fun c19b => ?_)
            · have c19 := c19b
              try simp only [BS] at c19
              refine wk_ift 1 (v := (op == 12)) rfl c19b rfl rfl ?_
              refine wr 1 [] 2 2 [] [(2, (.bool true))] trivial (by kernel_rfl) rfl fun gg20 => ?_
              refine wk_ret ⟨.inr rfl, _, rfl, true, rfl, rfl, (by exact alV_of (by simp; omega))⟩
            · have c19 := c19b
              try simp only [BS] at c19
              refine wr 1 [] 4 11 [] [(4, (.bool (op == 13)))] trivial (by kernel_rfl) rfl fun gg21 => ?_
              refine wk_if 1 1 (v := (op == 13)) rfl rfl rfl rfl (fun c22b => ?_) (fun c22b => ?_)
              · have c22 := c22b
                try simp only [BS] at c22
                refine wk_ift 1 (v := (op == 13)) rfl c22b rfl rfl ?_
                refine wr 1 [] 2 2 [] [(2, (.bool true))] trivial (by kernel_rfl) rfl fun gg23 => ?_
                refine wk_ret ⟨.inr rfl, _, rfl, true, rfl, rfl, (by exact alV_of (by simp; omega))⟩
              · have c22 := c22b
                try simp only [BS] at c22
                refine wr 1 [] 4 12 [] [(4, (.bool (op == 33)))] trivial (by kernel_rfl) rfl fun gg24 => ?_
                refine wk_if 1 1 (v := (op == 33)) rfl rfl rfl rfl (fun c25b => ?_) (fun c25b => ?_)
                · have c25 := c25b
                  try simp only [BS] at c25
                  refine wk_ift 1 (v := (op == 33)) rfl c25b rfl rfl ?_
                  refine wr 1 [] 2 2 [] [(2, (.bool true))] trivial (by kernel_rfl) rfl fun gg26 => ?_
                  refine wk_ret ⟨.inr rfl, _, rfl, true, rfl, rfl, (by exact alV_of (by simp; omega))⟩
                · have c25 := c25b
                  try simp only [BS] at c25
                  refine wr 1 [] 4 13 [] [(4, (.bool (op == 34)))] trivial (by kernel_rfl) rfl fun gg27 => ?_
                  refine wk_if 1 1 (v := (op == 34)) rfl rfl rfl rfl (fun c28b => ?_) (fun c28b => ?_)
                  · have c28 := c28b
                    try simp only [BS] at c28
                    refine wk_ift 1 (v := (op == 34)) rfl c28b rfl rfl ?_
                    refine wr 1 [] 2 2 [] [(2, (.bool true))] trivial (by kernel_rfl) rfl fun gg29 => ?_
                    refine wk_ret ⟨.inr rfl, _, rfl, true, rfl, rfl, (by exact alV_of (by simp; omega))⟩
                  · have c28 := c28b
                    try simp only [BS] at c28
                    refine wr 1 [] 4 14 [] [(4, (.bool (op == 35)))] trivial (by kernel_rfl) rfl fun gg30 => ?_
                    refine wk_if 1 0 (v := (op == 35)) rfl rfl rfl rfl (fun c31b => ?_) (fun c31b => ?_)
                    · have c31 := c31b
                      try simp only [BS] at c31
                      refine wk_ift 1 (v := (op == 35)) rfl c31b rfl rfl ?_
                      refine wr 1 [] 2 2 [] [(2, (.bool true))] trivial (by kernel_rfl) rfl fun gg32 => ?_
                      refine wk_ret ⟨.inr rfl, _, rfl, true, rfl, rfl, (by exact alV_of (by simp; omega))⟩
                    · have c31 := c31b
                      try simp only [BS] at c31
                      refine wr 1 [] 4 15 [] [(4, (.bool (op == 38)))] trivial (by kernel_rfl) rfl fun gg33 => ?_
                      refine wk_if 1 3 (v := (op == 38)) rfl rfl rfl rfl (fun c34b => ?_) (fun c34b => ?_)
                      · have c34 := c34b
                        try simp only [BS] at c34
                        refine wr 1 [] 2 2 [] [(2, (.bool true))] trivial (by kernel_rfl) rfl fun gg35 => ?_
                        refine wk_ret ⟨.inr rfl, _, rfl, true, rfl, rfl, (by exact alV_of (by simp; omega))⟩
                      · have c34 := c34b
                        try simp only [BS] at c34
                        refine wr 1 [] 16 21 [2] [(2, (.bool ((decide ((15 : Int) ≤ op)) && (decide (op ≤ 32)))))] trivial (by kernel_rfl) rfl fun gg36 => ?_
                        refine wk_ret ⟨.inr rfl, _, rfl, ((decide ((15 : Int) ≤ op)) && (decide (op ≤ 32))), rfl, rfl, (by exact alV_of (by simp; omega))⟩

theorem ralw_c_q (ex : FuncId) (op : Int) (H : Heap) : C Tryd.prog 1 (KT 60 ex 37 tabC) 64 [(.int .i64 op)] H fun v H' => v = (.bool (alV op)) ∧ H' = H :=
  cq (ralw_c ex op H) (by rintro _ _ ⟨_, rfl, rfl, rfl⟩; exact ⟨rfl, rfl⟩)
end Go.Proofs.YtlabedbmgmfbaaaDoor.m1
