/-
 Interference: the allocator, by a symbolic run. No condition but bounds on lengths.
-/
import Derived.Test.YtknafdcgpaejlaaDoorZANA
import Derived.Test.YtknafdcgpaejlaaDoorZARD
noncomputable section
namespace Go.Proofs.YtknafdcgpaejlaaDoor.nb
open Go.R
set_option maxRecDepth 10000
set_option linter.unusedVariables false
open m1 m2 m3 m4 m5 m6 ma ml mb mc md mf mg mh mi mj na
abbrev insN (c : VFnT) (b i : Nat) : VInT := (blkN c b).ins.getD i default
def eok (c : VFnT) (b i : Nat) (a x : Int) : Prop := x ≠ a ∧ ¬ ((insN c b i).i.op = 10 ∧ x = (insN c b i).i.b)
def edg (c : VFnT) (b i a x : Nat) : Prop := (a : Int) ∈ writesV (insN c b i) ∧ ptS c b (i + 1) x ∧ eok c b i a x
def E0 (c : VFnT) (k a x : Nat) : Prop := ∃ b i, b < k ∧ i < (blkN c b).ins.length ∧ edg c b i a x
def E1 (c : VFnT) (k n a x : Nat) : Prop := E0 c k a x ∨ ∃ i, i < n ∧ edg c k i a x
def E2 (c : VFnT) (k n q a x : Nat) : Prop := E1 c k n a x ∨ ((a : Int) ∈ (writesV (insN c k n)).take q ∧ ptS c k (n + 1) x ∧ eok c k n a x)
def E3 (c : VFnT) (k n q : Nat) (l : List Int) (p a x : Nat) : Prop := E2 c k n q a x ∨ ((a : Int) = (writesV (insN c k n)).getD q 0 ∧ (x : Int) ∈ l.take p ∧ eok c k n a x)
def intE (c : VFnT) (a x : Nat) : Prop := E0 c c.blocks.length a x
def Sy (R : Nat → Nat → Prop) (r y : Nat) : Prop := R r y ∨ R y r
theorem Sy.iff {R R' : Nat → Nat → Prop} (h : ∀ a x, R a x ↔ R' a x) (r y : Nat) : Sy R r y ↔ Sy R' r y := or_congr (h r y) (h y r)
structure RwF (c : VFnT) (rl : List (List U64)) (R : Nat → Nat → Prop) : Prop where
 len : rl.length = c.regs.toNat
 row : ∀ r, r < c.regs.toNat → (rl.getD r default).length = wds c
 bit : ∀ r, r < c.regs.toNat → ∀ y, bI rl r y ↔ Sy R r y
theorem RwF.iff {c : VFnT} {rl : List (List U64)} {R R' : Nat → Nat → Prop} (h : RwF c rl R) (k : ∀ a x, R a x ↔ R' a x) : RwF c rl R' := ⟨h.len, h.row, fun r hr y => (h.bit r hr y).trans (Sy.iff k r y)⟩
theorem rw_zero {c : VFnT} {rl : List (List U64)} {k : Nat} (hl : rl.length = c.regs.toNat) (hk : c.regs.toNat ≤ k) (h : ∀ j, j < k → rl.getD j default = List.replicate (wds c) ⟨0⟩) : RwF c rl (E0 c 0) := by
 refine ⟨hl, fun r hr => by rw [h r (by omega), List.length_replicate], fun r hr y => ?_⟩
 unfold bI
 rw [h r (by omega), bit_rep]
 constructor
 ·
  intro h; cases h
 ·
  rintro (⟨b, _, h, _⟩ | ⟨b, _, h, _⟩) <;> exact absurd h (Nat.not_lt_zero _)
theorem rw_e0 {c : VFnT} {rl : List (List U64)} {k n : Nat} (h : RwF c rl (E1 c k n)) (hn : (blkN c k).ins.length = n) : RwF c rl (E0 c (k + 1)) := h.iff fun a x => by
 unfold E1 E0
 constructor
 ·
  rintro (⟨b, i, A, z⟩ | ⟨i, A, z⟩)
  ·
   exact ⟨b, i, by omega, z⟩
  ·
   exact ⟨k, i, Nat.lt_succ_self _, by omega, z⟩
 ·
  rintro ⟨b, i, A, z, E⟩
  rcases Nat.lt_or_ge b k with hb | hb
  ·
   exact .inl ⟨b, i, hb, z, E⟩
  ·
   have : b = k := by omega
   subst this; exact .inr ⟨i, by omega, E⟩
theorem rw_e1 {c : VFnT} {rl : List (List U64)} {k : Nat} (h : RwF c rl (E0 c k)) : RwF c rl (E1 c k 0) := h.iff fun a x => ⟨.inl, fun h => h.elim id fun ⟨i, h, _⟩ => absurd h (Nat.not_lt_zero _)⟩
theorem rw_e1s {c : VFnT} {rl : List (List U64)} {k n q : Nat} (h : RwF c rl (E2 c k n q)) (hq : (writesV (insN c k n)).length ≤ q) : RwF c rl (E1 c k (n + 1)) := h.iff fun a x => by
 unfold E2 E1
 rw [List.take_of_length_le hq]
 constructor
 ·
  rintro ((h | ⟨i, A, z⟩) | h)
  ·
   exact .inl h
  ·
   exact .inr ⟨i, by omega, z⟩
  ·
   exact .inr ⟨n, Nat.lt_succ_self _, h⟩
 ·
  rintro (h | ⟨i, A, z⟩)
  ·
   exact .inl (.inl h)
  ·
   rcases Nat.lt_or_ge i n with hi | hi
   ·
    exact .inl (.inr ⟨i, hi, z⟩)
   ·
    have : i = n := by omega
    subst this; exact .inr z
theorem rw_e2 {c : VFnT} {rl : List (List U64)} {k n : Nat} (h : RwF c rl (E1 c k n)) : RwF c rl (E2 c k n 0) := h.iff fun a x => ⟨.inl, fun h => h.elim id fun h => by simp at h⟩
theorem rw_e2s {c : VFnT} {rl : List (List U64)} {k n q p : Nat} {l : List Int} (hl : Lst l (ptS c k (n + 1))) (h : RwF c rl (E3 c k n q l p)) (hq : q < (writesV (insN c k n)).length) (hp : l.length ≤ p) : RwF c rl (E2 c k n (q + 1)) := h.iff fun a x => by
 unfold E3 E2
 rw [List.take_of_length_le hp, take_snoc hq (d := 0), List.mem_append, List.mem_singleton, hl.mem]
 have e : ((x : Int)).toNat = x := by omega
 rw [e]
 constructor
 ·
  rintro ((h | ⟨z, A, E⟩) | ⟨z, ⟨_, A⟩, E⟩)
  ·
   exact .inl h
  ·
   exact .inr ⟨.inl z, A, E⟩
  ·
   exact .inr ⟨.inr z, A, E⟩
 ·
  rintro (h | ⟨z | z, A, E⟩)
  ·
   exact .inl (.inl h)
  ·
   exact .inl (.inr ⟨z, A, E⟩)
  ·
   exact .inr ⟨z, ⟨by omega, A⟩, E⟩
theorem rw_e3 {c : VFnT} {rl : List (List U64)} {k n q : Nat} {l : List Int} (h : RwF c rl (E2 c k n q)) : RwF c rl (E3 c k n q l 0) := h.iff fun a x => ⟨.inl, fun h => h.elim id fun h => by simp at h⟩
theorem e3_step {c : VFnT} {k n q p : Nat} {l : List Int} (hp : p < l.length) (a x : Nat) : E3 c k n q l (p + 1) a x ↔ (E3 c k n q l p a x ∨ ((a : Int) = (writesV (insN c k n)).getD q 0 ∧ (x : Int) = l.getD p 0 ∧ eok c k n a x)) := by
 unfold E3
 rw [take_snoc hp (d := 0), List.mem_append, List.mem_singleton]
 constructor
 ·
  rintro (h | ⟨A, z | z, E⟩)
  ·
   exact .inl (.inl h)
  ·
   exact .inl (.inr ⟨A, z, E⟩)
  ·
   exact .inr ⟨A, z, E⟩
 ·
  rintro ((h | ⟨A, z, E⟩) | ⟨A, z, E⟩)
  ·
   exact .inl h
  ·
   exact .inr ⟨A, .inl z, E⟩
  ·
   exact .inr ⟨A, .inr z, E⟩
theorem rw_no {c : VFnT} {rl : List (List U64)} {k n q p : Nat} {l : List Int} (hp : p < l.length) (h : RwF c rl (E3 c k n q l p)) (hn : ¬ eok c k n ((writesV (insN c k n)).getD q 0) (l.getD p 0)) : RwF c rl (E3 c k n q l (p + 1)) := h.iff fun a x => by
 rw [e3_step hp]
 exact ⟨.inl, fun h => h.elim id fun ⟨A, E, z⟩ => absurd (by rw [A, E] at z; exact z) hn⟩
structure Con (rl rl' : List (List U64)) (a x : Int) : Prop where
 len : rl'.length = rl.length
 row : ∀ r, (rl'.getD r default).length = (rl.getD r default).length
 bit : ∀ r y, bI rl' r y ↔ (bI rl r y ∨ (r = a.toNat ∧ y = x.toNat) ∨ (r = x.toNat ∧ y = a.toNat))
theorem eok_of {c : VFnT} {k n : Nat} {a x : Int} (h : eok c k n a x) (ha : 0 ≤ a) (hx : 0 ≤ x) : eok c k n ((a.toNat : Nat) : Int) ((x.toNat : Nat) : Int) := by rwa [Int.toNat_of_nonneg ha, Int.toNat_of_nonneg hx]
theorem rw_yes {c : VFnT} {rl rl' : List (List U64)} {k n q p : Nat} {l : List Int} (hp : p < l.length) (h : RwF c rl (E3 c k n q l p)) (hc : Con rl rl' ((writesV (insN c k n)).getD q 0) (l.getD p 0)) (ha : 0 ≤ (writesV (insN c k n)).getD q 0) (hx : 0 ≤ l.getD p 0) (hn : eok c k n ((writesV (insN c k n)).getD q 0) (l.getD p 0)) : RwF c rl' (E3 c k n q l (p + 1)) := by
 refine ⟨hc.len.trans h.len, fun r hr => (hc.row r).trans (h.row r hr), fun r hr y => ?_⟩
 rw [hc.bit, h.bit r hr]
 unfold Sy
 rw [e3_step hp, e3_step hp]
 constructor
 ·
  rintro ((z | z) | ⟨z, A⟩ | ⟨z, A⟩)
  ·
   exact .inl (.inl z)
  ·
   exact .inr (.inl z)
  ·
   subst z A; exact .inl (.inr ⟨by omega, by omega, eok_of hn ha hx⟩)
  ·
   subst z A; exact .inr (.inr ⟨by omega, by omega, eok_of hn ha hx⟩)
 ·
  rintro ((z | ⟨z, A, _⟩) | (z | ⟨z, A, _⟩))
  ·
   exact .inl (.inl z)
  ·
   exact .inr (.inl ⟨by omega, by omega⟩)
  ·
   exact .inl (.inr z)
  ·
   exact .inr (.inr ⟨by omega, by omega⟩)
theorem con_two {rl : List (List U64)} {a b : Int} {z A : List U64} (ha : a.toNat < rl.length) (hb : b.toNat < rl.length) (hab : a.toNat ≠ b.toNat) (V : z.length = (rl.getD a.toNat default).length) (T : A.length = ((rl.set a.toNat z).getD b.toNat default).length)
  (U : ∀ i, bitOf z i = (bitOf (rl.getD a.toNat default) i || decide (i = b.toNat))) (O : ∀ i, bitOf A i = (bitOf ((rl.set a.toNat z).getD b.toNat default) i || decide (i = a.toNat))) : Con rl ((rl.set a.toNat z).set b.toNat A) a b := by
 have N : ∀ r, (rl.set a.toNat z).getD r default = if a.toNat = r then z else rl.getD r default := fun r => by
  rw [at_set]
  by_cases h : a.toNat = r
  ·
   subst h; rw [if_pos ⟨rfl, ha⟩, if_pos rfl]
  ·
   rw [if_neg (fun e => h e.1), if_neg h]
 rw [N, if_neg hab] at T O
 have e : ∀ r, ((rl.set a.toNat z).set b.toNat A).getD r default = if b.toNat = r then A else if a.toNat = r then z else rl.getD r default := fun r => by
  rw [at_set, N]
  by_cases h : b.toNat = r
  ·
   subst h; rw [if_pos ⟨rfl, by rw [List.length_set]; exact hb⟩, if_pos rfl]
  ·
   rw [if_neg (fun e => h e.1), if_neg h]
 refine ⟨by rw [List.length_set, List.length_set], fun r => ?_, fun r y => ?_⟩
 ·
  rw [e]
  split
  ·
   rename_i h; subst h; exact T
  ·
   split
   ·
    rename_i h; subst h; exact V
   ·
    rfl
 ·
  unfold bI
  rw [e]
  by_cases h : b.toNat = r
  ·
   subst h
   rw [if_pos rfl, O, Bool.or_eq_true, decide_eq_true_eq]
   constructor
   ·
    rintro (h | h)
    ·
     exact .inl h
    ·
     exact .inr (.inr ⟨rfl, h⟩)
   ·
    rintro (h | ⟨h, _⟩ | ⟨_, h⟩)
    ·
     exact .inl h
    ·
     exact absurd h.symm hab
    ·
     exact .inr h
  ·
   rw [if_neg h]
   by_cases E : a.toNat = r
   ·
    subst E
    rw [if_pos rfl, U, Bool.or_eq_true, decide_eq_true_eq]
    constructor
    ·
     rintro (h | h)
     ·
      exact .inl h
     ·
      exact .inr (.inl ⟨rfl, h⟩)
    ·
     rintro (h | ⟨_, h⟩ | ⟨h, _⟩)
     ·
      exact .inl h
     ·
      exact .inr h
     ·
      exact absurd h hab
   ·
    rw [if_neg E]
    exact ⟨.inl, fun I => I.elim id fun I => by rcases I with ⟨J, _⟩ | ⟨J, _⟩; exact absurd J.symm E; exact absurd J.symm h⟩
def upS (rl : List (List U64)) (k n y : Nat) : Prop := bI rl k y ∧ y < n
theorem up_zero {rl : List (List U64)} {k : Nat} : Lst [] (upS rl k 0) := Lst.nil fun r h => Nat.not_lt_zero _ h.2
theorem Lst.snoc {l : List Int} {S : Nat → Prop} {n : Nat} (h : Lst l S) (hb : ∀ y, S y → y < n) : Lst (l ++ [(n : Int)]) (fun y => S y ∨ y = n) := by
 refine ⟨List.pairwise_append.2 ⟨h.asc, List.pairwise_singleton _ _, fun x hx y hy => ?_⟩, fun x => ?_⟩
 ·
  rw [List.mem_singleton] at hy; subst hy
  have := (h.mem x).1 hx
  have := hb _ this.2
  omega
 ·
  rw [List.mem_append, List.mem_singleton, h.mem]
  constructor
  ·
   rintro (z | z)
   ·
    exact ⟨z.1, .inl z.2⟩
   ·
    exact ⟨by omega, .inr (by omega)⟩
  ·
   rintro ⟨z, A | A⟩
   ·
    exact .inl ⟨z, A⟩
   ·
    exact .inr (by omega)
theorem up_yes {rl : List (List U64)} {k n : Nat} {l : List Int} (h : Lst l (upS rl k n)) (hb : bI rl k n) : Lst (l ++ [(n : Int)]) (upS rl k (n + 1)) := Lst.ext (Lst.snoc h fun y hy => hy.2) fun y => by
 unfold upS
 constructor
 ·
  rintro (⟨z, E⟩ | rfl)
  ·
   exact ⟨z, by omega⟩
  ·
   exact ⟨hb, Nat.lt_succ_self _⟩
 ·
  rintro ⟨z, E⟩
  rcases Nat.lt_or_ge y n with A | A
  ·
   exact .inl ⟨z, A⟩
  ·
   exact .inr (by omega)
theorem up_no {rl : List (List U64)} {k n : Nat} {l : List Int} (h : Lst l (upS rl k n)) (hb : ¬ bI rl k n) : Lst l (upS rl k (n + 1)) := Lst.ext h fun y => by
 unfold upS
 constructor
 ·
  rintro ⟨z, E⟩; exact ⟨z, by omega⟩
 ·
  rintro ⟨z, E⟩
  refine ⟨z, ?_⟩
  rcases Nat.lt_or_ge y n with A | A
  ·
   exact A
  ·
   have : y = n := by omega
   subst this; exact absurd z hb
theorem rw_last {c : VFnT} {rl : List (List U64)} {k : Nat} (h : RwF c rl (E0 c k)) (hk : k = c.blocks.length) : RwF c rl (intE c) := by subst hk; exact h
theorem row_rep {n r : Nat} : rowN (List.replicate n ([] : List Int)) r = [] := by
 unfold rowN
 rw [List.getD_eq_getElem?_getD, List.getElem?_replicate]
 split <;> rfl
structure InF (c : VFnT) (g : List (List Int)) : Prop where
 len : g.length = c.regs.toNat
 row : ∀ r, r < c.regs.toNat → Lst (rowN g r) (Sy (intE c) r)
theorem inf_of {c : VFnT} {g : List (List Int)} {k : Nat} (hl : g.length = c.regs.toNat) (hk : c.regs.toNat ≤ k) (h : ∀ r, r < k → Lst (rowN g r) (Sy (intE c) r)) : InF c g := ⟨hl, fun r hr => h r (by omega)⟩
theorem fin_row {c : VFnT} {rl : List (List U64)} {g : List (List Int)} {k n : Nat} (h : RwF c rl (intE c)) (hk : k < c.regs.toNat) (v : VF c) (hn : c.regs.toNat ≤ n) (hg : ∀ r, r < k → Lst (rowN g r) (Sy (intE c) r)) (hu : Lst (rowN g k) (upS rl k n)) : ∀ r, r < k + 1 → Lst (rowN g r) (Sy (intE c) r) := fun r hr => by
 rcases Nat.lt_or_ge r k with z | z
 ·
  exact hg r z
 ·
  have : r = k := by omega
  subst this
  refine Lst.ext hu fun y => ?_
  unfold upS
  rw [h.bit r hk]
  refine ⟨fun h => h.1, fun hy => ⟨hy, ?_⟩⟩
  have hlt : ∀ a x, intE c a x → (a : Int) < c.regs ∧ (x : Int) < c.regs := fun a x ⟨b, i, z, A, E, I, _⟩ => ⟨((reads_lim (v.ins b z i A)).2.1 _ E).2, pt_lt v z I⟩
  rcases hy with hy | hy
  ·
   have := hlt _ _ hy; omega
  ·
   have := hlt _ _ hy; omega
set_option maxHeartbeats 4000000 in
theorem inter_c (ex : FuncId) {ad : Option Addr} {ae : Nat} (c : VFnT) {F : Fz} {H : Heap} {R : List Fp} (hs : HS (.of H []) F H [] R) (gu : in64 c.params) (gv : in64 c.regs) (aU : SR F (.slice ad c.blocks.length ae) c.blocks) (hT : TB 37 tabC F) (hins : ∀ j, (c.blocks.getD j default).ins.length ≤ 1073741822) : C Tryd.prog 1 (KT 60 ex 37 tabC) 20 [(.agg ⟨[(.int .i64 c.params), (.int .i64 c.regs), (.slice ad c.blocks.length ae)]⟩)] H fun v H' => ∃ (ag : Option Addr) (kg : Nat) (g : List (List Int)) (F' : Fz), Fz.le F F' ∧ HS (.of H []) F' H' [] R ∧ v = .slice ag g.length kg ∧ SR F' (.slice ag g.length kg) g ∧ (valV c = true → InF c g) ∧ (valV c = false → g = []) := by
 refine c_enter Tryd.func20 rfl rfl ?_
 refine wk_foc 1 rfl ?_
 refine wk_region ?_
 refine wo_rs (rs_box hs rfl rfl) rfl rfl ?_
 rintro _ H2 _ ⟨b1, rfl, cy, _⟩
 have cy : HS _ _ _ [[(b1, .cells [(.int .i64 c.params), (.int .i64 c.regs), (.slice ad c.blocks.length ae)] none false)]] _ := cy
 refine wa (.slice none 0 0) rfl rfl rfl ?_
 refine wo_end 3 rfl ?_
 refine wk_region ?_
 refine wro 1 0 [(0, .o (.agg ⟨[(.int .i64 c.params), (.int .i64 c.regs), (.slice ad c.blocks.length ae)]⟩))] 18 18 [] [(18, (.agg ⟨[(.int .i64 c.params), (.int .i64 c.regs), (.slice ad c.blocks.length ae)]⟩))] (vA (qn 24 0 3 (HS.hc cy (i := 0) rfl) rfl rfl rfl rfl) trivial) (by kernel_rfl) rfl fun _ => ?_
 refine wo_call (ap_call rfl rfl rfl) rfl rfl (m3.valid_c ex c (HS.call cy) (by first | (dsimp only; omega) | omega) (by first | (dsimp only; omega) | omega) aU hT (by exact fun j => Nat.le_trans (hins j) (by omega))) ?_
 rintro _ H4 ⟨r4, F4, df, bS, rfl, rfl⟩
 replace bS := HS.back cy rfl bS
 have bS : HS _ _ _ [_] _ := bS
 replace hT := hT.mono df
 replace aU := aU.mono df
 refine wro 1 2 [] 20 20 [] [(20, (.bool (!(valV c))))] trivial (by kernel_rfl) rfl fun _ => ?_
 refine wo_end 1 rfl ?_
 refine wk_if 1 2 (v := (!(valV c))) rfl rfl rfl rfl (fun dG => ?_) (fun dG => ?_)
 ·
  have c6 := dG
  try simp only [BS] at c6
  have hv := c6
  refine wr 1 [] 2 2 [] [(2, (.slice none 0 0))] trivial (by kernel_rfl) rfl fun _ => ?_
  refine wk_ret ⟨.inr rfl, _, rfl, none, 0, ([] : List (List Int)), _, (df), (HS.forget bS), rfl, (SR.nil : SR F4 (.slice none 0 0) ([] : List (List Int))), (by first | exact fun h => absurd (h.symm.trans hv) (by decide) | exact fun _ => inf_of ew (by omega) dW), (by first | exact fun _ => rfl | exact fun h => absurd (hv.symm.trans h) (by decide))⟩
 ·
  have c6 := dG
  try simp only [BS] at c6
  have hv := c6
  have vF := vF_of hv
  have hnb := vF.nb
  have hrg := vF.regs
  have hwd := wd_le vF.regs
  have gy : Int.tdiv (c.regs + 63) 64 = (c.regs + 63) / 64 := Int.tdiv_eq_ediv_of_nonneg (by omega)
  have gz : (List.replicate c.regs.toNat (default : Hd)).length = c.regs.toNat := List.length_replicate
  refine wk_region ?_
  refine wro 2 0 [(1, .o (.int .i64 c.regs))] 21 22 [] [(22, (.int .i64 c.regs))] (vA (ql 3 1 (HS.hc bS (i := 0) rfl) rfl rfl) trivial) (by kernel_rfl) rfl fun _ => ?_
  refine wo_rs (rs_make (default : Hd) bS rfl rfl rfl rfl rfl rfl rfl rfl rfl rfl (by first | (dsimp only; omega) | omega) (by first | (dsimp only; omega) | omega)) rfl rfl ?_
  rintro _ gS p9 ⟨a9, k9, rfl, fp, cS, _⟩
  have cS : HS _ _ _ [_, p9] _ := cS
  have cT := HS.snoc cS
  have cT : HS _ _ _ [_, _, []] _ := cT
  have dN : SF F4 (List.replicate c.regs.toNat (default : Hd)) (List.replicate c.regs.toNat ([] : List U64)) [] := SF.rep _
  have gn := FAM.len dN
  refine wo_rs (rs_new cT rfl) rfl rfl ?_
  rintro _ gT _ ⟨N, rfl, cU, _⟩
  have cU : HS _ _ _ [_, _, _, [(N, .cells [(.slice none 0 0)] none false)]] _ := cU
  refine wo_rk (rs_rec (q := 3) cU rfl rfl rfl rfl rfl rfl rfl rfl rfl) rfl ?_
  rintro _ gU _ ⟨cl, _⟩
  have cl : HS _ _ _ [_, _, _, [(N, .cells [(.slice a9 (List.replicate c.regs.toNat (default : Hd)).length k9)] none false)]] _ := cl
  refine wo_end 3 rfl ?_
  refine wr 2 [(0, .o (.slice a9 (List.replicate c.regs.toNat (default : Hd)).length k9))] 24 26 [] [(25, (.int .i64 ((List.replicate c.regs.toNat (default : Hd)).length : Int))), (26, (.int .i64 0))] (vA (ql 85 0 (HS.hc cl (i := 3) rfl) rfl rfl) trivial) (by kernel_rfl) rfl fun _ => ?_
  refine wk_loop_inv (fun (mm : Nat) f H' => ∃ (rh : List Hd) (rl : List (List U64)) (k : Nat) (am : Fp) (O : Option Addr) (T : Nat) (aX : Fp) (F' : Fz), Fz.le F4 F' ∧ HS (Base.of H []) F' H' [[(b1, .cells [(.int .i64 c.params), (.int .i64 c.regs), (.slice ad c.blocks.length ae)] none false)], am, aX, [(N, .cells [(.slice O rh.length T)] none false)]] R ∧ OS F' (.slice O rh.length T) rh am ∧ SF F' rh rl aX ∧ agrees f [(1, (.pointer (some ⟨b1, 0, none⟩))), (2, (.slice none 0 0)), (3, (.pointer (some ⟨N, 0, none⟩))), (25, (.int .i64 ((List.replicate c.regs.toNat (default : Hd)).length : Int))), (26, (.int .i64 (k : Int)))] ∧ mm = c.regs.toNat - k ∧ (rl.length = c.regs.toNat) ∧ (k ≤ c.regs.toNat) ∧ (∀ j, j < k → rl.getD j default = List.replicate (wds c) ⟨0⟩)) _ ⟨List.replicate c.regs.toNat (default : Hd), List.replicate c.regs.toNat ([] : List U64), 0, p9, a9, k9, [], _, (Fz.le_refl _), cl, fp, dN, (agC rfl (agC rfl (agC rfl (agC rfl (agC rfl agN))))), rfl, (by simp), (by first | assumption | omega | (simp at *; omega)), (by intro j hj; omega)⟩ ?_
  rintro gI hb gV ⟨rh, rl, k, am, O, T, aX, fg, b8, bg, aG, a4, dO, rfl, ev, hC, ez⟩ e0
  refine wk_canon _ dO (fun _ => ?_)
  clear dO
  replace hT := hT.mono b8
  replace aU := aU.mono b8
  have e9 := FAM.len a4
  refine wk_foc 1 rfl ?_
  refine wr 2 [] 27 27 [] [(27, (.bool (decide ((k : Int) < ((List.replicate c.regs.toNat (default : Hd)).length : Int)))))] trivial (by kernel_rfl) rfl fun _ => ?_
  refine wk_if 4 5 (v := (decide ((k : Int) < ((List.replicate c.regs.toNat (default : Hd)).length : Int)))) rfl rfl rfl rfl (fun cJ => ?_) (fun cJ => ?_)
  ·
   have dA := cJ
   try simp only [BS] at dA
   refine wr 1 [] 28 28 [4] [(4, (.int .i64 (k : Int)))] trivial (by kernel_rfl) rfl fun _ => ?_
   refine wf_region rfl ?_
   refine wf_pure (v := (.slice O rh.length T)) (id := .l N) (ap_ld1 (i := 0) rfl rfl (HS.hc bg.log0 (i := 3) rfl) rfl rfl) rfl rfl (did_l rfl) trivial ?_
   refine fm (.int .i64 (k : Int)) rfl rfl rfl ?_
   refine wf_pure (v := (.pointer (some ⟨b1, 1, none⟩))) (id := .v) (ap_fa rfl rfl) rfl rfl (did_v rfl) (okD_v _) ?_
   refine wf_pure (v := (.int .i64 c.regs)) (id := .l b1) (ap_ld1 (i := 1) rfl rfl (HS.hc bg.log0 (i := 0) rfl) rfl rfl) rfl rfl (did_l rfl) (⟨.inl rfl, ⟨.inr trivial, ⟨.inr trivial, trivial⟩⟩⟩) ?_
   refine wf_pure (v := (.int .i64 (c.regs + 63))) (id := .v) (ap_add rfl rfl (w_i64 (n := c.regs + 63) (by first | (dsimp only; omega) | omega))) rfl rfl (did_v rfl) (okD_v _) ?_
   have gN : in64 (c.regs + 63) → in64 (Int.tdiv (c.regs + 63) 64) := fun h => vq h (by decide)
   refine wf_pure (v := (.int .i64 (Int.tdiv (c.regs + 63) 64))) (id := .v) (ap_div rfl rfl (by decide) (w_tdiv (by first | (dsimp only; omega) | omega) (by decide))) rfl rfl (did_v rfl) (okD_v _) ?_
   refine wf_rs (id := .x []) (rs_make (⟨0⟩ : U64) bg.log0 rfl rfl rfl rfl rfl rfl rfl rfl rfl ⟨rfl, by decide⟩ (by first | (dsimp only; omega) | omega) (by first | (dsimp only; omega) | omega)) rfl rfl (by rintro _ _ eA ⟨c3, dr, rfl, dX, _, hwr⟩; exact did_x rfl rfl (Wr.did hwr)) (⟨.inl rfl, ⟨.inl rfl, ⟨.inl rfl, ⟨.inl rfl, ⟨.inr trivial, ⟨.inr List.not_mem_nil, trivial⟩⟩⟩⟩⟩⟩) ?_
   rintro _ fk eA ⟨c3, dr, rfl, dX, bh, _⟩ e5 ek
   replace bh := HS.lg bh bg ek
   generalize ({ fk with log := e5 } : Heap) = f9 at bh ⊢
   have bh : HS _ _ _ [_, am, aX, [(N, .cells [(.slice O rh.length T)] none false)], eA] _ := bh
   refine wf_pure (v := (.pointer (some ⟨sB (.slice O rh.length T), sO (.slice O rh.length T) + k * Rp.sz Hd, none⟩))) (id := .v) (ap_idxV (α := Hd) (j := (k : Int)) rfl rfl rfl rfl (OS.sv aG bh.log0 (i := 1) rfl) (by first | (dsimp only; omega) | omega) (by first | (dsimp only; omega) | omega)) rfl rfl (did_v rfl) (okD_v _) ?_
   obtain ⟨eM, dI, cV, cQ, eQ⟩ := SF.open a4 bh (q := 2) (i := k) rfl (by first | (dsimp only; omega) | omega)
   have cV : HS _ _ _ [_, _, eM, _, _, dI] _ := cV
   have cQ : OS fg (.slice (rh.getD k default).a (rh.getD k default).n (rh.getD k default).k) (rl.getD k default) dI := cQ
   have gF := OS.nlen cQ
   obtain ⟨dL, co, dP⟩ := SF.shutN (⟨c3, (List.replicate (Int.tdiv (c.regs + 63) 64).toNat (⟨0⟩ : U64)).length, dr⟩ : Hd) eQ (Fz.le_refl _) cV (q := 2) (m := 4) (by decide) rfl rfl dX
   have co : HS _ _ _ [_, _, dL, _, [], _] _ := co
   have go := FAM.len dP
   refine wf_rk (id := .x (am.map Prod.fst)) (rs_st (α := Hd) (j := k) (off := 0) (q := 1) (⟨c3, (List.replicate (Int.tdiv (c.regs + 63) 64).toNat (⟨0⟩ : U64)).length, dr⟩ : Hd) aG co.log0 rfl rfl rfl rfl rfl rfl rfl rfl (getD_at (x := default) (by first | (dsimp only; omega) | omega)) rfl (by rintro cs rfl; exact ⟨Nat.le_of_ble_eq_true rfl, rfl⟩)) rfl (by rintro _ _ ee ⟨cR, _, hwr⟩; exact did_x rfl rfl (Wr.did hwr)) (⟨.inl rfl, ⟨.inl rfl, ⟨.inl rfl, ⟨.inl rfl, ⟨.inl rfl, ⟨.inl rfl, ⟨.inl rfl, ⟨.inl rfl, trivial⟩⟩⟩⟩⟩⟩⟩⟩) ?_
   rintro _ fl ee ⟨cR, bp, _⟩ e6 el
   replace bp := HS.lg bp co el
   generalize ({ fl with log := e6 } : Heap) = ga at bp ⊢
   have bp : HS _ _ _ [_, ee, _, _, _, _] _ := bp
   have fQ := OS.len' cR
   refine wf_nil ?_
   refine wk_foc 2 rfl ?_
   refine wr 1 [] 26 26 [37] [(26, (.int .i64 ((k : Int) + 1)))] (vA (vi (n := (k : Int) + 1) (by first | (dsimp only; omega) | omega)) trivial) (by kernel_rfl) rfl fun _ => ?_
   refine e0 _ _ _ ?_ ⟨rh.set k (⟨c3, (List.replicate (Int.tdiv (c.regs + 63) 64).toNat (⟨0⟩ : U64)).length, dr⟩ : Hd), rl.set k (List.replicate (Int.tdiv (c.regs + 63) 64).toNat (⟨0⟩ : U64)), k + 1, ee, O, T, dL, _, (b8), (by simpa only [List.length_set] using (HS.sub bp (List.sublist_append_left _ _))), (OS.norm cR), dP, (agC rfl (agC rfl (agC rfl (agC rfl (agC rfl agN))))), rfl, (by rw [List.length_set]; exact ev), (by first | assumption | omega | (simp at *; omega)), (by exact zset ez (by omega))⟩
   omega
  ·
   have dA := cJ
   try simp only [BS] at dA
   refine wr 2 [] 38 38 [5] [(5, (.func (.func 50) #[] #[(.pointer (some ⟨N, 0, none⟩))]))] trivial (by kernel_rfl) rfl fun _ => ?_
   have eV := rw_zero (c := c) ev (by omega) ez
   refine wk_region ?_
   refine wro 1 0 [(0, .o (.agg ⟨[(.int .i64 c.params), (.int .i64 c.regs), (.slice ad c.blocks.length ae)]⟩))] 39 39 [] [(39, (.agg ⟨[(.int .i64 c.params), (.int .i64 c.regs), (.slice ad c.blocks.length ae)]⟩))] (vA (qn 24 0 3 (HS.hc bg (i := 0) rfl) rfl rfl rfl rfl) trivial) (by kernel_rfl) rfl fun _ => ?_
   refine wo_call (ap_call rfl rfl rfl) rfl rfl (na.points_c ex c (HS.call bg) (by first | (dsimp only; omega) | omega) (by first | (dsimp only; omega) | omega) aU hT (by first | assumption | omega) (by first | assumption | omega)) ?_
   rintro _ gW ⟨bj, bl, z, bB, fh, bN, br, rfl, aE, hB⟩
   replace br := HS.back bg rfl br
   have br : HS _ _ _ [_, am, aX, [(N, .cells [(.slice O rh.length T)] none false)], bB] _ := br
   replace aG := aG.mono bN
   replace a4 := SF.mono bN a4
   refine wa (.slice bj z.length bl) rfl rfl rfl ?_
   refine wo_end 3 rfl ?_
   have ps := (by assumption : PsF c _)
   have hpsl := ps.len
   refine wr 2 [(1, .o (.slice ad c.blocks.length ae))] 41 44 [] [(42, (.slice ad c.blocks.length ae)), (43, (.int .i64 (c.blocks.length : Int))), (44, (.int .i64 0))] (vA (ql 22 2 (HS.hc br (i := 0) rfl) rfl rfl) trivial) (by kernel_rfl) rfl fun _ => ?_
   refine wk_loop_inv (fun (mm : Nat) f H' => ∃ (aK : List Hd) (cC : List (List U64)) (k : Nat) (an : Fp) (ah : Option Addr) (aj : Nat) (aO : Fp) (F' : Fz), Fz.le fh F' ∧ HS (Base.of H []) F' H' [[(b1, .cells [(.int .i64 c.params), (.int .i64 c.regs), (.slice ad c.blocks.length ae)] none false)], an, aO, [(N, .cells [(.slice ah aK.length aj)] none false)], bB] R ∧ OS F' (.slice ah aK.length aj) aK an ∧ SF F' aK cC aO ∧ agrees f [(1, (.pointer (some ⟨b1, 0, none⟩))), (2, (.slice none 0 0)), (3, (.pointer (some ⟨N, 0, none⟩))), (5, (.func (.func 50) #[] #[(.pointer (some ⟨N, 0, none⟩))])), (6, (.slice bj z.length bl)), (42, (.slice ad c.blocks.length ae)), (43, (.int .i64 (c.blocks.length : Int))), (44, (.int .i64 (k : Int)))] ∧ mm = c.blocks.length - k ∧ (RwF c cC (E0 c k)) ∧ (k ≤ c.blocks.length)) _ ⟨rh, rl, 0, am, O, T, aX, _, (Fz.le_refl _), br, aG, a4, (agC rfl (agC rfl (agC rfl (agC rfl (agC rfl (agC rfl (agC rfl (agC rfl agN)))))))), rfl, (by exact eV), (by first | assumption | omega | (simp at *; omega))⟩ ?_
   rintro gJ hf gX ⟨aK, cC, k, an, ah, aj, aO, dw, bO, bR, bz, bV, dQ, rfl, ef, hk⟩ e1
   refine wk_canon _ dQ (fun _ => ?_)
   clear dQ
   replace hT := (hT.mono bN).mono bO
   replace aU := (aU.mono bN).mono bO
   replace aE := aE.mono bO
   have fb := FAM.len bV
   have gA := ef.len
   refine wk_foc 1 rfl ?_
   refine wr 2 [] 45 45 [] [(45, (.bool (decide ((k : Int) < (c.blocks.length : Int)))))] trivial (by kernel_rfl) rfl fun _ => ?_
   refine wk_if 4 5 (v := (decide ((k : Int) < (c.blocks.length : Int)))) rfl rfl rfl rfl (fun cL => ?_) (fun cL => ?_)
   ·
    have dB := cL
    try simp only [BS] at dB
    have hbn : k < c.blocks.length := by omega
    have hbl := hins k
    have px : PtX c k (z.getD k default) := ps.at_ k hbn
    have hpxl : (z.getD k default).length = (c.blocks.getD k default).ins.length + 2 := px.len
    have fV : (z.getD k []).length = (c.blocks.getD k default).ins.length + 2 := px.len
    refine wk_region ?_
    obtain ⟨A, d1⟩ := Sv.view (SR.sv aU bR)
    obtain ⟨fF, fG, fH, fJ, bL⟩ := BlkT.fx (d1 k)
    refine wro 3 0 [(2, .o (.agg ⟨[(.slice (cA (A k) 0) (c.blocks.getD k default).ins.length (cK (A k) 0)), (.int .i64 (c.blocks.getD k default).fin), (.int .i64 (c.blocks.getD k default).reg), (.int .i64 (c.blocks.getD k default).tgt), (.int .i64 (c.blocks.getD k default).els)]⟩))] 46 48 [] [(46, (.int .i64 (k : Int))), (48, (.agg ⟨[(.slice (cA (A k) 0) (c.blocks.getD k default).ins.length (cK (A k) 0)), (.int .i64 (c.blocks.getD k default).fin), (.int .i64 (c.blocks.getD k default).reg), (.int .i64 (c.blocks.getD k default).tgt), (.int .i64 (c.blocks.getD k default).els)]⟩))] (vA (Sv.ix (j := (k : Int)) (SR.sv aU bR) (by first | (dsimp only; omega) | omega) (by first | (dsimp only; omega) | omega)) (vA (qn 48 0 5 (BlkT.vw (d1 k) (by first | (dsimp only; omega) | omega)) rfl rfl rfl rfl) trivial)) (by kernel_rfl) rfl fun _ => ?_
    refine wo_rs (rs_new bR rfl) rfl rfl ?_
    rintro _ gY _ ⟨bk, rfl, cW, _⟩
    have cW : HS _ _ _ [_, an, aO, [(N, .cells [(.slice ah aK.length aj)] none false)], _, [(bk, .cells [(.slice none 0 0), (.int .i64 0), (.int .i64 0), (.int .i64 0), (.int .i64 0)] none false)]] _ := cW
    refine wa (.int .i64 (k : Int)) rfl rfl rfl ?_
    refine wo_rk (rs_rec (q := 5) cW rfl rfl rfl rfl rfl rfl rfl rfl rfl) rfl ?_
    rintro _ gZ _ ⟨cp, _⟩
    have cp : HS _ _ _ [_, _, _, _, _, [(bk, .cells [(.slice (cA (A k) 0) (c.blocks.getD k default).ins.length (cK (A k) 0)), (.int .i64 (c.blocks.getD k default).fin), (.int .i64 (c.blocks.getD k default).reg), (.int .i64 (c.blocks.getD k default).tgt), (.int .i64 (c.blocks.getD k default).els)] none false)]] _ := cp
    refine wo_end 2 rfl ?_
    refine wr 2 [(1, .o (.slice (cA (A k) 0) (c.blocks.getD k default).ins.length (cK (A k) 0)))] 49 52 [] [(50, (.slice (cA (A k) 0) (c.blocks.getD k default).ins.length (cK (A k) 0))), (51, (.int .i64 ((c.blocks.getD k default).ins.length : Int))), (52, (.int .i64 0))] (vA (ql 46 0 (HS.hc cp (i := 5) rfl) rfl rfl) trivial) (by kernel_rfl) rfl fun _ => ?_
    refine wk_loop_inv (fun (mm : Nat) f H' => ∃ (bC : List Hd) (cE : List (List U64)) (n : Nat) (ax : Fp) (av : Option Addr) (aw : Nat) (aY : Fp) (F' : Fz), Fz.le dw F' ∧ HS (Base.of H []) F' H' [[(b1, .cells [(.int .i64 c.params), (.int .i64 c.regs), (.slice ad c.blocks.length ae)] none false)], ax, aY, [(N, .cells [(.slice av bC.length aw)] none false)], bB, [(bk, .cells [(.slice (cA (A k) 0) (c.blocks.getD k default).ins.length (cK (A k) 0)), (.int .i64 (c.blocks.getD k default).fin), (.int .i64 (c.blocks.getD k default).reg), (.int .i64 (c.blocks.getD k default).tgt), (.int .i64 (c.blocks.getD k default).els)] none false)]] R ∧ OS F' (.slice av bC.length aw) bC ax ∧ SF F' bC cE aY ∧ agrees f [(1, (.pointer (some ⟨b1, 0, none⟩))), (2, (.slice none 0 0)), (3, (.pointer (some ⟨N, 0, none⟩))), (5, (.func (.func 50) #[] #[(.pointer (some ⟨N, 0, none⟩))])), (6, (.slice bj z.length bl)), (7, (.int .i64 (k : Int))), (8, (.pointer (some ⟨bk, 0, none⟩))), (42, (.slice ad c.blocks.length ae)), (43, (.int .i64 (c.blocks.length : Int))), (44, (.int .i64 (k : Int))), (45, (.bool (decide ((k : Int) < (c.blocks.length : Int))))), (46, (.int .i64 (k : Int))), (48, (.agg ⟨[(.slice (cA (A k) 0) (c.blocks.getD k default).ins.length (cK (A k) 0)), (.int .i64 (c.blocks.getD k default).fin), (.int .i64 (c.blocks.getD k default).reg), (.int .i64 (c.blocks.getD k default).tgt), (.int .i64 (c.blocks.getD k default).els)]⟩)), (50, (.slice (cA (A k) 0) (c.blocks.getD k default).ins.length (cK (A k) 0))), (51, (.int .i64 ((c.blocks.getD k default).ins.length : Int))), (52, (.int .i64 (n : Int)))] ∧ mm = (c.blocks.getD k default).ins.length - n ∧ (RwF c cE (E1 c k n)) ∧ (n ≤ (c.blocks.getD k default).ins.length)) _ ⟨aK, cC, 0, an, ah, aj, aO, _, (Fz.le_refl _), cp, bz, bV, (agC rfl (agC rfl (agC rfl (agC rfl (agC rfl (agC rfl (agC rfl (agC rfl (agC rfl (agC rfl (agC rfl (agC rfl (agC rfl (agC rfl (agC rfl (agC rfl agN)))))))))))))))), rfl, (by exact rw_e1 ef), (by first | assumption | omega | (simp at *; omega))⟩ ?_
    rintro gK hg g0 ⟨bC, cE, n, ax, av, aw, aY, gQ, bP, cr, aR, a5, dR, rfl, eB, hn⟩ e2
    refine wk_canon _ dR (fun _ => ?_)
    clear dR
    replace hT := hT.mono bP
    replace aE := aE.mono bP
    replace bL := bL.mono bP
    have fc := FAM.len a5
    refine wk_foc 1 rfl ?_
    refine wr 2 [] 53 53 [] [(53, (.bool (decide ((n : Int) < ((c.blocks.getD k default).ins.length : Int)))))] trivial (by kernel_rfl) rfl fun _ => ?_
    refine wk_if 4 5 (v := (decide ((n : Int) < ((c.blocks.getD k default).ins.length : Int)))) rfl rfl rfl rfl (fun cM => ?_) (fun cM => ?_)
    ·
     have dC := cM
     try simp only [BS] at dC
     have hin : n < (c.blocks.getD k default).ins.length := by omega
     have hvl : (∀ x ∈ readsV ((c.blocks.getD k default).ins.getD n default), 0 ≤ x ∧ x < c.regs) ∧ (∀ x ∈ writesV ((c.blocks.getD k default).ins.getD n default), 0 ≤ x ∧ x < c.regs) ∧ ((c.blocks.getD k default).ins.getD n default).args.length ≤ 6 := reads_lim (vF.ins k hbn n hin)
     have gD := hvl.2.2
     have pl : Lst ((z.getD k default).getD (n + 1) default) (ptS c k (n + 1)) := px.pt (n + 1) hin
     have hpl := Lst.len pl hrg.1 (fun r h => pt_lt vF hbn h)
     have hpv : ((z.getD k default).getD (n + 1) []).length = ((z.getD k default).getD (n + 1) default).length := rfl
     have gx : ((z.getD k []).getD (n + 1) []).length = ((z.getD k default).getD (n + 1) default).length := rfl
     have hwl := writes_len (v := ((c.blocks.getD k default).ins.getD n default))
     refine wk_region ?_
     obtain ⟨J, d2⟩ := Sv.view (SR.sv bL cr)
     obtain ⟨fK, fM, fN, fO, fP, eu⟩ := VInT.fx (d2 n)
     refine wro 3 0 [(2, .o (.agg ⟨[(.int .i64 ((c.blocks.getD k default).ins.getD n default).i.op), (.int .i64 ((c.blocks.getD k default).ins.getD n default).i.a), (.int .i64 ((c.blocks.getD k default).ins.getD n default).i.b), (.int .i64 ((c.blocks.getD k default).ins.getD n default).i.c), (.int .i64 ((c.blocks.getD k default).ins.getD n default).i.n), (.slice (cA (J n) 5) ((c.blocks.getD k default).ins.getD n default).args.length (cK (J n) 5))]⟩))] 54 56 [] [(54, (.int .i64 (n : Int))), (56, (.agg ⟨[(.int .i64 ((c.blocks.getD k default).ins.getD n default).i.op), (.int .i64 ((c.blocks.getD k default).ins.getD n default).i.a), (.int .i64 ((c.blocks.getD k default).ins.getD n default).i.b), (.int .i64 ((c.blocks.getD k default).ins.getD n default).i.c), (.int .i64 ((c.blocks.getD k default).ins.getD n default).i.n), (.slice (cA (J n) 5) ((c.blocks.getD k default).ins.getD n default).args.length (cK (J n) 5))]⟩))] (vA (Sv.ix (j := (n : Int)) (SR.sv bL cr) (by first | (dsimp only; omega) | omega) (by first | (dsimp only; omega) | omega)) (vA (qn 52 0 6 (VInT.vw (d2 n) (by first | (dsimp only; omega) | omega)) rfl rfl rfl rfl) trivial)) (by kernel_rfl) rfl fun _ => ?_
     refine wo_rs (rs_new cr rfl) rfl rfl ?_
     rintro _ g3 _ ⟨bM, rfl, cX, _⟩
     have cX : HS _ _ _ [_, ax, aY, [(N, .cells [(.slice av bC.length aw)] none false)], _, _, [(bM, .cells [(.int .i64 0), (.int .i64 0), (.int .i64 0), (.int .i64 0), (.int .i64 0), (.slice none 0 0)] none false)]] _ := cX
     refine wa (.int .i64 (n : Int)) rfl rfl rfl ?_
     refine wo_rk (rs_rec (q := 6) cX rfl rfl rfl rfl rfl rfl rfl rfl rfl) rfl ?_
     rintro _ g4 _ ⟨bT, _⟩
     have bT : HS _ _ _ [_, _, _, _, _, _, [(bM, .cells [(.int .i64 ((c.blocks.getD k default).ins.getD n default).i.op), (.int .i64 ((c.blocks.getD k default).ins.getD n default).i.a), (.int .i64 ((c.blocks.getD k default).ins.getD n default).i.b), (.int .i64 ((c.blocks.getD k default).ins.getD n default).i.c), (.int .i64 ((c.blocks.getD k default).ins.getD n default).i.n), (.slice (cA (J n) 5) ((c.blocks.getD k default).ins.getD n default).args.length (cK (J n) 5))] none false)]] _ := bT
     refine wo_end 2 rfl ?_
     refine wk_region ?_
     refine wro 1 0 [(0, .o (.agg ⟨[(.int .i64 ((c.blocks.getD k default).ins.getD n default).i.op), (.int .i64 ((c.blocks.getD k default).ins.getD n default).i.a), (.int .i64 ((c.blocks.getD k default).ins.getD n default).i.b), (.int .i64 ((c.blocks.getD k default).ins.getD n default).i.c), (.int .i64 ((c.blocks.getD k default).ins.getD n default).i.n), (.slice (cA (J n) 5) ((c.blocks.getD k default).ins.getD n default).args.length (cK (J n) 5))]⟩))] 57 57 [] [(57, (.agg ⟨[(.int .i64 ((c.blocks.getD k default).ins.getD n default).i.op), (.int .i64 ((c.blocks.getD k default).ins.getD n default).i.a), (.int .i64 ((c.blocks.getD k default).ins.getD n default).i.b), (.int .i64 ((c.blocks.getD k default).ins.getD n default).i.c), (.int .i64 ((c.blocks.getD k default).ins.getD n default).i.n), (.slice (cA (J n) 5) ((c.blocks.getD k default).ins.getD n default).args.length (cK (J n) 5))]⟩))] (vA (qn 52 0 6 (HS.hc bT (i := 6) rfl) rfl rfl rfl rfl) trivial) (by kernel_rfl) rfl fun _ => ?_
     refine wo_call (ap_call rfl rfl rfl) rfl rfl (ma.vwrites_c ex ((c.blocks.getD k default).ins.getD n default) (HS.call bT) (by first | (dsimp only; omega) | omega) (by first | (dsimp only; omega) | omega) (by first | (dsimp only; omega) | omega) (by first | (dsimp only; omega) | omega) (by first | (dsimp only; omega) | omega) eu hT) ?_
     rintro _ g5 ⟨dz, eb, hE, ds, fi, b9, bU, rfl, bG, rfl⟩
     replace bU := HS.back bT rfl bU
     have bU : HS _ _ _ [_, _, _, _, _, _, _, ds] _ := bU
     replace aR := aR.mono b9
     replace a5 := SF.mono b9 a5
     refine wro 2 2 [] 59 60 [] [(59, (.int .i64 ((writesV ((c.blocks.getD k default).ins.getD n default)).length : Int))), (60, (.int .i64 0))] trivial (by kernel_rfl) rfl fun _ => ?_
     refine wo_end 2 rfl ?_
     refine wk_loop_inv (fun (mm : Nat) f H' => ∃ (bX : List Hd) (cF : List (List U64)) (q : Nat) (aI : Fp) (aF : Option Addr) (aH : Nat) (a6 : Fp) (F' : Fz), Fz.le fi F' ∧ HS (Base.of H []) F' H' [[(b1, .cells [(.int .i64 c.params), (.int .i64 c.regs), (.slice ad c.blocks.length ae)] none false)], aI, a6, [(N, .cells [(.slice aF bX.length aH)] none false)], bB, [(bk, .cells [(.slice (cA (A k) 0) (c.blocks.getD k default).ins.length (cK (A k) 0)), (.int .i64 (c.blocks.getD k default).fin), (.int .i64 (c.blocks.getD k default).reg), (.int .i64 (c.blocks.getD k default).tgt), (.int .i64 (c.blocks.getD k default).els)] none false)], [(bM, .cells [(.int .i64 ((c.blocks.getD k default).ins.getD n default).i.op), (.int .i64 ((c.blocks.getD k default).ins.getD n default).i.a), (.int .i64 ((c.blocks.getD k default).ins.getD n default).i.b), (.int .i64 ((c.blocks.getD k default).ins.getD n default).i.c), (.int .i64 ((c.blocks.getD k default).ins.getD n default).i.n), (.slice (cA (J n) 5) ((c.blocks.getD k default).ins.getD n default).args.length (cK (J n) 5))] none false)], ds] R ∧ OS F' (.slice aF bX.length aH) bX aI ∧ SF F' bX cF a6 ∧ agrees f [(1, (.pointer (some ⟨b1, 0, none⟩))), (2, (.slice none 0 0)), (3, (.pointer (some ⟨N, 0, none⟩))), (5, (.func (.func 50) #[] #[(.pointer (some ⟨N, 0, none⟩))])), (6, (.slice bj z.length bl)), (7, (.int .i64 (k : Int))), (8, (.pointer (some ⟨bk, 0, none⟩))), (9, (.int .i64 (n : Int))), (10, (.pointer (some ⟨bM, 0, none⟩))), (42, (.slice ad c.blocks.length ae)), (43, (.int .i64 (c.blocks.length : Int))), (44, (.int .i64 (k : Int))), (45, (.bool (decide ((k : Int) < (c.blocks.length : Int))))), (46, (.int .i64 (k : Int))), (48, (.agg ⟨[(.slice (cA (A k) 0) (c.blocks.getD k default).ins.length (cK (A k) 0)), (.int .i64 (c.blocks.getD k default).fin), (.int .i64 (c.blocks.getD k default).reg), (.int .i64 (c.blocks.getD k default).tgt), (.int .i64 (c.blocks.getD k default).els)]⟩)), (50, (.slice (cA (A k) 0) (c.blocks.getD k default).ins.length (cK (A k) 0))), (51, (.int .i64 ((c.blocks.getD k default).ins.length : Int))), (52, (.int .i64 (n : Int))), (53, (.bool (decide ((n : Int) < ((c.blocks.getD k default).ins.length : Int))))), (54, (.int .i64 (n : Int))), (56, (.agg ⟨[(.int .i64 ((c.blocks.getD k default).ins.getD n default).i.op), (.int .i64 ((c.blocks.getD k default).ins.getD n default).i.a), (.int .i64 ((c.blocks.getD k default).ins.getD n default).i.b), (.int .i64 ((c.blocks.getD k default).ins.getD n default).i.c), (.int .i64 ((c.blocks.getD k default).ins.getD n default).i.n), (.slice (cA (J n) 5) ((c.blocks.getD k default).ins.getD n default).args.length (cK (J n) 5))]⟩)), (57, (.agg ⟨[(.int .i64 ((c.blocks.getD k default).ins.getD n default).i.op), (.int .i64 ((c.blocks.getD k default).ins.getD n default).i.a), (.int .i64 ((c.blocks.getD k default).ins.getD n default).i.b), (.int .i64 ((c.blocks.getD k default).ins.getD n default).i.c), (.int .i64 ((c.blocks.getD k default).ins.getD n default).i.n), (.slice (cA (J n) 5) ((c.blocks.getD k default).ins.getD n default).args.length (cK (J n) 5))]⟩)), (58, (.slice dz (writesV ((c.blocks.getD k default).ins.getD n default)).length eb)), (59, (.int .i64 ((writesV ((c.blocks.getD k default).ins.getD n default)).length : Int))), (60, (.int .i64 (q : Int)))] ∧ mm = (writesV ((c.blocks.getD k default).ins.getD n default)).length - q ∧ (RwF c cF (E2 c k n q)) ∧ (q ≤ (writesV ((c.blocks.getD k default).ins.getD n default)).length)) _ ⟨bC, cE, 0, ax, av, aw, aY, _, (Fz.le_refl _), bU, aR, a5, (agC rfl (agC rfl (agC rfl (agC rfl (agC rfl (agC rfl (agC rfl (agC rfl (agC rfl (agC rfl (agC rfl (agC rfl (agC rfl (agC rfl (agC rfl (agC rfl (agC rfl (agC rfl (agC rfl (agC rfl (agC rfl (agC rfl (agC rfl (agC rfl (agC rfl agN))))))))))))))))))))))))), rfl, (by exact rw_e2 eB), (by first | assumption | omega | (simp at *; omega))⟩ ?_
     rintro gL hl g6 ⟨bX, cF, q, aI, aF, aH, a6, fj, ca, a3, bA, bW, dS, rfl, eC, hq⟩ e3
     refine wk_canon _ dS (fun _ => ?_)
     clear dS
     replace aE := (aE.mono b9).mono ca
     replace bG := bG.mono ca
     have fd := FAM.len bW
     refine wk_foc 1 rfl ?_
     refine wr 2 [] 61 61 [] [(61, (.bool (decide ((q : Int) < ((writesV ((c.blocks.getD k default).ins.getD n default)).length : Int)))))] trivial (by kernel_rfl) rfl fun _ => ?_
     refine wk_if 4 5 (v := (decide ((q : Int) < ((writesV ((c.blocks.getD k default).ins.getD n default)).length : Int)))) rfl rfl rfl rfl (fun cN => ?_) (fun cN => ?_)
     ·
      have dD := cN
      try simp only [BS] at dD
      have hwq := lim_at hvl.2.1 (k := q) (by omega)
      obtain ⟨ge, d3⟩ := Sv.view (OS.sv bG a3 (i := 7) rfl)
      have hu := fI (d3 q)
      refine wr 2 [(1, .o (.int .i64 ((writesV ((c.blocks.getD k default).ins.getD n default)).getD q 0)))] 62 63 [12] [(12, (.int .i64 ((writesV ((c.blocks.getD k default).ins.getD n default)).getD q 0)))] (vA (Sv.ix (j := (q : Int)) (OS.sv bG a3 (i := 7) rfl) (by first | (dsimp only; omega) | omega) (by first | (dsimp only; omega) | omega)) (vA (ql 3 0 (vI (d3 q) (by first | (dsimp only; omega) | omega)) rfl rfl) trivial)) (by kernel_rfl) rfl fun _ => ?_
      obtain ⟨dH, d4⟩ := Sv.view (OS.sv aE a3 (i := 4) rfl)
      have eE := fL (d4 k)
      obtain ⟨bo, d5⟩ := Sv.view (SR.sv eE a3)
      have du := fL (d5 (n + 1))
      refine wr 2 [(3, .o (.slice (cA (dH k) 0) (z.getD k default).length (cK (dH k) 0))), (7, .o (.slice (cA (bo (n + 1)) 0) ((z.getD k default).getD (n + 1) default).length (cK (bo (n + 1)) 0)))] 64 73 [] [(71, (.slice (cA (bo (n + 1)) 0) ((z.getD k default).getD (n + 1) default).length (cK (bo (n + 1)) 0))), (72, (.int .i64 (((z.getD k default).getD (n + 1) default).length : Int))), (73, (.int .i64 0))] (vA (Sv.ix (j := (k : Int)) (OS.sv aE a3 (i := 4) rfl) (by first | (dsimp only; omega) | omega) (by first | (dsimp only; omega) | omega)) (vA (ql 32 0 (vL (d4 k) (by first | (dsimp only; omega) | omega)) rfl rfl) (vA (vi (n := (n : Int) + 1) (by first | (dsimp only; omega) | omega)) (vA (Sv.ix (j := (n : Int) + 1) (SR.sv eE a3) (by first | (dsimp only; omega) | omega) (by first | (dsimp only; omega) | omega)) (vA (ql 25 0 (vL (d5 (n + 1)) (by first | (dsimp only; omega) | omega)) rfl rfl) trivial))))) (by kernel_rfl) rfl fun _ => ?_
      refine wk_loop_inv (fun (mm : Nat) f H' => ∃ (I : List Hd) (E : List (List U64)) (p : Nat) (ap : Fp) (Z : Option Addr) (ab : Nat) (a7 : Fp) (F' : Fz), Fz.le fj F' ∧ HS (Base.of H []) F' H' [[(b1, .cells [(.int .i64 c.params), (.int .i64 c.regs), (.slice ad c.blocks.length ae)] none false)], ap, a7, [(N, .cells [(.slice Z I.length ab)] none false)], bB, [(bk, .cells [(.slice (cA (A k) 0) (c.blocks.getD k default).ins.length (cK (A k) 0)), (.int .i64 (c.blocks.getD k default).fin), (.int .i64 (c.blocks.getD k default).reg), (.int .i64 (c.blocks.getD k default).tgt), (.int .i64 (c.blocks.getD k default).els)] none false)], [(bM, .cells [(.int .i64 ((c.blocks.getD k default).ins.getD n default).i.op), (.int .i64 ((c.blocks.getD k default).ins.getD n default).i.a), (.int .i64 ((c.blocks.getD k default).ins.getD n default).i.b), (.int .i64 ((c.blocks.getD k default).ins.getD n default).i.c), (.int .i64 ((c.blocks.getD k default).ins.getD n default).i.n), (.slice (cA (J n) 5) ((c.blocks.getD k default).ins.getD n default).args.length (cK (J n) 5))] none false)], ds] R ∧ OS F' (.slice Z I.length ab) I ap ∧ SF F' I E a7 ∧ agrees f [(1, (.pointer (some ⟨b1, 0, none⟩))), (2, (.slice none 0 0)), (3, (.pointer (some ⟨N, 0, none⟩))), (5, (.func (.func 50) #[] #[(.pointer (some ⟨N, 0, none⟩))])), (6, (.slice bj z.length bl)), (7, (.int .i64 (k : Int))), (8, (.pointer (some ⟨bk, 0, none⟩))), (9, (.int .i64 (n : Int))), (10, (.pointer (some ⟨bM, 0, none⟩))), (12, (.int .i64 ((writesV ((c.blocks.getD k default).ins.getD n default)).getD q 0))), (42, (.slice ad c.blocks.length ae)), (43, (.int .i64 (c.blocks.length : Int))), (44, (.int .i64 (k : Int))), (45, (.bool (decide ((k : Int) < (c.blocks.length : Int))))), (46, (.int .i64 (k : Int))), (48, (.agg ⟨[(.slice (cA (A k) 0) (c.blocks.getD k default).ins.length (cK (A k) 0)), (.int .i64 (c.blocks.getD k default).fin), (.int .i64 (c.blocks.getD k default).reg), (.int .i64 (c.blocks.getD k default).tgt), (.int .i64 (c.blocks.getD k default).els)]⟩)), (50, (.slice (cA (A k) 0) (c.blocks.getD k default).ins.length (cK (A k) 0))), (51, (.int .i64 ((c.blocks.getD k default).ins.length : Int))), (52, (.int .i64 (n : Int))), (53, (.bool (decide ((n : Int) < ((c.blocks.getD k default).ins.length : Int))))), (54, (.int .i64 (n : Int))), (56, (.agg ⟨[(.int .i64 ((c.blocks.getD k default).ins.getD n default).i.op), (.int .i64 ((c.blocks.getD k default).ins.getD n default).i.a), (.int .i64 ((c.blocks.getD k default).ins.getD n default).i.b), (.int .i64 ((c.blocks.getD k default).ins.getD n default).i.c), (.int .i64 ((c.blocks.getD k default).ins.getD n default).i.n), (.slice (cA (J n) 5) ((c.blocks.getD k default).ins.getD n default).args.length (cK (J n) 5))]⟩)), (57, (.agg ⟨[(.int .i64 ((c.blocks.getD k default).ins.getD n default).i.op), (.int .i64 ((c.blocks.getD k default).ins.getD n default).i.a), (.int .i64 ((c.blocks.getD k default).ins.getD n default).i.b), (.int .i64 ((c.blocks.getD k default).ins.getD n default).i.c), (.int .i64 ((c.blocks.getD k default).ins.getD n default).i.n), (.slice (cA (J n) 5) ((c.blocks.getD k default).ins.getD n default).args.length (cK (J n) 5))]⟩)), (58, (.slice dz (writesV ((c.blocks.getD k default).ins.getD n default)).length eb)), (59, (.int .i64 ((writesV ((c.blocks.getD k default).ins.getD n default)).length : Int))), (60, (.int .i64 (q : Int))), (61, (.bool (decide ((q : Int) < ((writesV ((c.blocks.getD k default).ins.getD n default)).length : Int))))), (71, (.slice (cA (bo (n + 1)) 0) ((z.getD k default).getD (n + 1) default).length (cK (bo (n + 1)) 0))), (72, (.int .i64 (((z.getD k default).getD (n + 1) default).length : Int))), (73, (.int .i64 (p : Int)))] ∧ mm = (((z.getD k default).getD (n + 1) default)).length - p ∧ (RwF c E (E3 c k n q ((z.getD k default).getD (n + 1) default) p)) ∧ (p ≤ (((z.getD k default).getD (n + 1) default)).length)) _ ⟨bX, cF, 0, aI, aF, aH, a6, _, (Fz.le_refl _), a3, bA, bW, (agC rfl (agC rfl (agC rfl (agC rfl (agC rfl (agC rfl (agC rfl (agC rfl (agC rfl (agC rfl (agC rfl (agC rfl (agC rfl (agC rfl (agC rfl (agC rfl (agC rfl (agC rfl (agC rfl (agC rfl (agC rfl (agC rfl (agC rfl (agC rfl (agC rfl (agC rfl (agC rfl (agC rfl (agC rfl (agC rfl agN)))))))))))))))))))))))))))))), rfl, (by exact rw_e3 eC), (by first | assumption | omega | (simp at *; omega))⟩ ?_
      rintro gM ht g7 ⟨I, E, p, ap, Z, ab, a7, dx, cb, aV, al, bm, dT, rfl, bD, hp⟩ d9
      refine wk_canon _ dT (fun _ => ?_)
      clear dT
      replace du := du.mono cb
      have fe := FAM.len bm
      refine wk_foc 1 rfl ?_
      refine wr 2 [] 74 74 [] [(74, (.bool (decide ((p : Int) < (((z.getD k default).getD (n + 1) default).length : Int)))))] trivial (by kernel_rfl) rfl fun _ => ?_
      refine wk_if 4 5 (v := (decide ((p : Int) < (((z.getD k default).getD (n + 1) default).length : Int)))) rfl rfl rfl rfl (fun cO => ?_) (fun cO => ?_)
      ·
       have dF := cO
       try simp only [BS] at dF
       have hxp : 0 ≤ (((z.getD k default).getD (n + 1) default)).getD p 0 ∧ (((z.getD k default).getD (n + 1) default)).getD p 0 < c.regs := by (have hm := (pl.mem _).1 (mem_at (l := ((z.getD k default).getD (n + 1) default)) (q := p) (by omega)); have hh := pt_lt vF hbn hm.2; omega)
       obtain ⟨gf, d6⟩ := Sv.view (SR.sv du aV)
       have hw := fI (d6 p)
       refine wr 2 [(1, .o (.int .i64 (((z.getD k default).getD (n + 1) default).getD p 0)))] 75 76 [14] [(14, (.int .i64 (((z.getD k default).getD (n + 1) default).getD p 0)))] (vA (Sv.ix (j := (p : Int)) (SR.sv du aV) (by first | (dsimp only; omega) | omega) (by first | (dsimp only; omega) | omega)) (vA (ql 3 0 (vI (d6 p) (by first | (dsimp only; omega) | omega)) rfl rfl) trivial)) (by kernel_rfl) rfl fun _ => ?_
       refine wr 1 [(6, .o (.int .i64 ((c.blocks.getD k default).ins.getD n default).i.op)), (12, .o (.int .i64 ((c.blocks.getD k default).ins.getD n default).i.b))] 77 93 [] [(93, (.bool (((((z.getD k default).getD (n + 1) default).getD p 0) != ((writesV ((c.blocks.getD k default).ins.getD n default)).getD q 0)) && (!((((c.blocks.getD k default).ins.getD n default).i.op == 10) && ((((z.getD k default).getD (n + 1) default).getD p 0) == ((c.blocks.getD k default).ins.getD n default).i.b))))))] (vA (fun (g1 : ((((z.getD k default).getD (n + 1) default).getD p 0) != ((writesV ((c.blocks.getD k default).ins.getD n default)).getD q 0)) = true) => (ql 3 0 (HS.hc aV (i := 6) rfl) rfl rfl)) (vA (fun (g1 : (((c.blocks.getD k default).ins.getD n default).i.op == 10) = true) (g2 : ((((z.getD k default).getD (n + 1) default).getD p 0) != ((writesV ((c.blocks.getD k default).ins.getD n default)).getD q 0)) = true) => (ql 3 2 (HS.hc aV (i := 6) rfl) rfl rfl)) trivial)) (by kernel_rfl) rfl fun _ => ?_
       refine wk_if 0 2 (v := (((((z.getD k default).getD (n + 1) default).getD p 0) != ((writesV ((c.blocks.getD k default).ins.getD n default)).getD q 0)) && (!((((c.blocks.getD k default).ins.getD n default).i.op == 10) && ((((z.getD k default).getD (n + 1) default).getD p 0) == ((c.blocks.getD k default).ins.getD n default).i.b))))) rfl rfl rfl rfl (fun cP => ?_) (fun cP => ?_)
       ·
        have cv := cP
        try simp only [BS] at cv
        have bQ := cv
        have hne : eok c k n ((writesV ((c.blocks.getD k default).ins.getD n default)).getD q 0) ((((z.getD k default).getD (n + 1) default)).getD p 0) := ⟨bQ.1, fun h => by have h2 := bQ.2; simp_all⟩
        have gB := bD.len
        have hra := bD.row ((writesV ((c.blocks.getD k default).ins.getD n default)).getD q 0).toNat (by omega)
        have hrx := bD.row ((((z.getD k default).getD (n + 1) default)).getD p 0).toNat (by omega)
        have hnx := n64 (s := E.getD ((writesV ((c.blocks.getD k default).ins.getD n default)).getD q 0).toNat default) (n := (((z.getD k default).getD (n + 1) default)).getD p 0) (by omega)
        have hna := n64 (s := E.getD ((((z.getD k default).getD (n + 1) default)).getD p 0).toNat default) (n := (writesV ((c.blocks.getD k default).ins.getD n default)).getD q 0) (by omega)
        have hax : ((writesV ((c.blocks.getD k default).ins.getD n default)).getD q 0).toNat ≠ ((((z.getD k default).getD (n + 1) default)).getD p 0).toNat := by have := bQ.1; omega
        refine wk_region ?_
        refine wm (.func (.func 50) #[] #[(.pointer (some ⟨N, 0, none⟩))]) rfl rfl rfl ?_
        refine wm (.int .i64 ((writesV ((c.blocks.getD k default).ins.getD n default)).getD q 0)) rfl rfl rfl ?_
        refine wm (.int .i64 (((z.getD k default).getD (n + 1) default).getD p 0)) rfl rfl rfl ?_
        refine wo_call (R := fun v H' => ∃ (rhc : List Hd) (rlc : List (List U64)) (aT : Fp) (aQ : Option Addr) (aS : Nat) (bn : Fp) (F' : Fz), Fz.le dx F' ∧ HS (Base.of H []) F' H' [[(b1, .cells [(.int .i64 c.params), (.int .i64 c.regs), (.slice ad c.blocks.length ae)] none false)], aT, bn, [(N, .cells [(.slice aQ rhc.length aS)] none false)], bB, [(bk, .cells [(.slice (cA (A k) 0) (c.blocks.getD k default).ins.length (cK (A k) 0)), (.int .i64 (c.blocks.getD k default).fin), (.int .i64 (c.blocks.getD k default).reg), (.int .i64 (c.blocks.getD k default).tgt), (.int .i64 (c.blocks.getD k default).els)] none false)], [(bM, .cells [(.int .i64 ((c.blocks.getD k default).ins.getD n default).i.op), (.int .i64 ((c.blocks.getD k default).ins.getD n default).i.a), (.int .i64 ((c.blocks.getD k default).ins.getD n default).i.b), (.int .i64 ((c.blocks.getD k default).ins.getD n default).i.c), (.int .i64 ((c.blocks.getD k default).ins.getD n default).i.n), (.slice (cA (J n) 5) ((c.blocks.getD k default).ins.getD n default).args.length (cK (J n) 5))] none false)], ds] R ∧ OS F' (.slice aQ rhc.length aS) rhc aT ∧ SF F' rhc rlc bn ∧ v = .tuple #[] ∧ (Con E rlc ((writesV ((c.blocks.getD k default).ins.getD n default)).getD q 0) (((z.getD k default).getD (n + 1) default).getD p 0))) (ap_callc rfl rfl rfl rfl) rfl rfl ?_ ?_
        ·
         refine c_enter Tryd.func50 rfl rfl ?_
         refine wk_foc 1 rfl ?_
         refine wk_region ?_
         obtain ⟨gg, eY⟩ := Sv.view (OS.sv al aV (i := 1) rfl)
         obtain ⟨eN, dJ, bt, be, eR⟩ := SF.open bm aV (q := 2) (i := ((writesV ((c.blocks.getD k default).ins.getD n default)).getD q 0).toNat) rfl (by first | (dsimp only; omega) | omega | exact bits_rng _ _ _ | (dsimp only; exact bits_rng _ _ _))
         have bt : HS _ _ _ [_, ap, eN, [(N, .cells [(.slice Z I.length ab)] none false)], _, _, _, _, dJ] _ := bt
         have be : OS dx (.slice (I.getD (((writesV ((c.blocks.getD k default).ins.getD n default)).getD q 0).toNat) default).a (I.getD (((writesV ((c.blocks.getD k default).ins.getD n default)).getD q 0).toNat) default).n (I.getD (((writesV ((c.blocks.getD k default).ins.getD n default)).getD q 0).toNat) default).k) (E.getD (((writesV ((c.blocks.getD k default).ins.getD n default)).getD q 0).toNat) default) dJ := be
         have gG := OS.nlen be
         have gO : in64 (((z.getD k default).getD (n + 1) default).getD p 0) → in64 (Int.tdiv (((z.getD k default).getD (n + 1) default).getD p 0) 64) := fun h => vq h (by decide)
         obtain ⟨gh, d7⟩ := Sv.view (OS.sv be bt (i := 8) rfl)
         have hz := fU (d7 ((Int.tdiv (((z.getD k default).getD (n + 1) default).getD p 0) 64).toNat))
         refine wro 14 0 [(0, .o (.slice Z I.length ab)), (3, .o (.slice (I.getD (((writesV ((c.blocks.getD k default).ins.getD n default)).getD q 0).toNat) default).a (I.getD (((writesV ((c.blocks.getD k default).ins.getD n default)).getD q 0).toNat) default).n (I.getD (((writesV ((c.blocks.getD k default).ins.getD n default)).getD q 0).toNat) default).k)), (7, .o (.int .u64 (((E.getD (((writesV ((c.blocks.getD k default).ins.getD n default)).getD q 0).toNat) default).getD ((Int.tdiv (((z.getD k default).getD (n + 1) default).getD p 0) 64).toNat) default).n)))] 5 18 [] [(17, (.int .u64 (bitsOf .or .u64 (((E.getD (((writesV ((c.blocks.getD k default).ins.getD n default)).getD q 0).toNat) default).getD ((Int.tdiv (((z.getD k default).getD (n + 1) default).getD p 0) 64).toNat) default).n) (IntKind.u64.wrap (1 * 2 ^ (Nat.min ((Int.tmod (((z.getD k default).getD (n + 1) default).getD p 0) 64).toNat) 64)))))), (18, (.pointer (some ⟨sB (.slice (I.getD (((writesV ((c.blocks.getD k default).ins.getD n default)).getD q 0).toNat) default).a (I.getD (((writesV ((c.blocks.getD k default).ins.getD n default)).getD q 0).toNat) default).n (I.getD (((writesV ((c.blocks.getD k default).ins.getD n default)).getD q 0).toNat) default).k), sO (.slice (I.getD (((writesV ((c.blocks.getD k default).ins.getD n default)).getD q 0).toNat) default).a (I.getD (((writesV ((c.blocks.getD k default).ins.getD n default)).getD q 0).toNat) default).n (I.getD (((writesV ((c.blocks.getD k default).ins.getD n default)).getD q 0).toNat) default).k) + ((Int.tdiv (((z.getD k default).getD (n + 1) default).getD p 0) 64).toNat) * Rp.sz U64, none⟩)))] (vA (ql 85 0 (HS.hc aV (i := 3) rfl) rfl rfl) (vA (Sv.ix (j := ((writesV ((c.blocks.getD k default).ins.getD n default)).getD q 0)) (OS.sv al aV (i := 1) rfl) (by first | (dsimp only; omega) | omega | exact bits_rng _ _ _ | (dsimp only; exact bits_rng _ _ _)) (by first | (dsimp only; omega) | omega | exact bits_rng _ _ _ | (dsimp only; exact bits_rng _ _ _))) (vA (ql 86 0 (vH (eY (((writesV ((c.blocks.getD k default).ins.getD n default)).getD q 0).toNat)) (by first | (dsimp only; omega) | omega | exact bits_rng _ _ _ | (dsimp only; exact bits_rng _ _ _))) rfl rfl) (vA (vA (show (64 : Int) ≠ 0 from by decide) (vq (a := (((z.getD k default).getD (n + 1) default).getD p 0)) (b := 64) (by first | (dsimp only; omega) | omega | exact bits_rng _ _ _ | (dsimp only; exact bits_rng _ _ _)) (by decide))) (vA (Sv.ix (j := Int.tdiv (((z.getD k default).getD (n + 1) default).getD p 0) 64) (OS.sv be bt (i := 8) rfl) (by first | (dsimp only; omega) | omega | exact bits_rng _ _ _ | (dsimp only; exact bits_rng _ _ _)) (by first | (dsimp only; omega) | omega | exact bits_rng _ _ _ | (dsimp only; exact bits_rng _ _ _))) (vA (ql 87 0 (vU (d7 ((Int.tdiv (((z.getD k default).getD (n + 1) default).getD p 0) 64).toNat)) (by first | (dsimp only; omega) | omega | exact bits_rng _ _ _ | (dsimp only; exact bits_rng _ _ _))) rfl rfl) (vA (show (64 : Int) ≠ 0 from by decide) (vA (vu (n := Int.tmod (((z.getD k default).getD (n + 1) default).getD p 0) 64) (by first | (dsimp only; omega) | omega | exact bits_rng _ _ _ | (dsimp only; exact bits_rng _ _ _))) (vA (show (0 : Int) ≤ Int.tmod (((z.getD k default).getD (n + 1) default).getD p 0) 64 from by first | (dsimp only; omega) | omega | exact bits_rng _ _ _ | (dsimp only; exact bits_rng _ _ _)) (vA (Sv.ix (j := Int.tdiv (((z.getD k default).getD (n + 1) default).getD p 0) 64) (OS.sv be bt (i := 8) rfl) (by first | (dsimp only; omega) | omega | exact bits_rng _ _ _ | (dsimp only; exact bits_rng _ _ _)) (by first | (dsimp only; omega) | omega | exact bits_rng _ _ _ | (dsimp only; exact bits_rng _ _ _))) trivial)))))))))) (by kernel_rfl) rfl fun _ => ?_
         refine wo_rk (rs_st (α := U64) (j := (Int.tdiv (((z.getD k default).getD (n + 1) default).getD p 0) 64).toNat) (off := 0) (q := 8) ⟨bitsOf .or .u64 (((E.getD (((writesV ((c.blocks.getD k default).ins.getD n default)).getD q 0).toNat) default).getD ((Int.tdiv (((z.getD k default).getD (n + 1) default).getD p 0) 64).toNat) default).n) (IntKind.u64.wrap (1 * 2 ^ (Nat.min ((Int.tmod (((z.getD k default).getD (n + 1) default).getD p 0) 64).toNat) 64)))⟩ be bt rfl rfl rfl rfl rfl rfl rfl rfl (getD_at (x := default) (by first | (dsimp only; omega) | omega | exact bits_rng _ _ _ | (dsimp only; exact bits_rng _ _ _))) rfl (by rintro cs ⟨rfl, _⟩; exact ⟨Nat.le_of_ble_eq_true rfl, rfl, by first | (dsimp only; omega) | omega | exact bits_rng _ _ _ | (dsimp only; exact bits_rng _ _ _)⟩)) rfl ?_
         rintro _ g9 ft ⟨dY, cY, _⟩
         have cY : HS _ _ _ [_, _, _, _, _, _, _, _, ft] _ := cY
         have fR := OS.len' dY
         refine wo_end 1 rfl ?_
         obtain ⟨eP, bu, dU⟩ := SF.shut eR (Fz.le_refl _) cY (q := 2) (m := 8) (by decide) rfl rfl dY
         have bu : HS _ _ _ [_, _, eP, _, _, _, _, _, []] _ := bu
         have gp := FAM.len dU
         have hD : ((E.set (((writesV ((c.blocks.getD k default).ins.getD n default)).getD q 0).toNat) ((E.getD (((writesV ((c.blocks.getD k default).ins.getD n default)).getD q 0).toNat) default).set ((Int.tdiv (((z.getD k default).getD (n + 1) default).getD p 0) 64).toNat) ⟨bitsOf .or .u64 (((E.getD (((writesV ((c.blocks.getD k default).ins.getD n default)).getD q 0).toNat) default).getD ((Int.tdiv (((z.getD k default).getD (n + 1) default).getD p 0) 64).toNat) default).n) (IntKind.u64.wrap (1 * 2 ^ (Nat.min ((Int.tmod (((z.getD k default).getD (n + 1) default).getD p 0) 64).toNat) 64)))⟩)).getD (((z.getD k default).getD (n + 1) default).getD p 0).toNat default).length = (E.getD (((z.getD k default).getD (n + 1) default).getD p 0).toNat default).length := by rw [at_set, if_neg (fun e => hax e.1)]
         refine wk_region ?_
         obtain ⟨gi, eZ⟩ := Sv.view (OS.sv al bu (i := 1) rfl)
         obtain ⟨eO, dK, bw, bf, eS⟩ := SF.open dU bu (q := 2) (i := (((z.getD k default).getD (n + 1) default).getD p 0).toNat) rfl (by first | (dsimp only; omega) | omega | exact bits_rng _ _ _ | (dsimp only; exact bits_rng _ _ _))
         have bw : HS _ _ _ [_, _, eO, _, _, _, _, _, _, dK] _ := bw
         have bf : OS dx (.slice (I.getD (((z.getD k default).getD (n + 1) default).getD p 0).toNat default).a (I.getD (((z.getD k default).getD (n + 1) default).getD p 0).toNat default).n (I.getD (((z.getD k default).getD (n + 1) default).getD p 0).toNat default).k) ((E.set (((writesV ((c.blocks.getD k default).ins.getD n default)).getD q 0).toNat) ((E.getD (((writesV ((c.blocks.getD k default).ins.getD n default)).getD q 0).toNat) default).set ((Int.tdiv (((z.getD k default).getD (n + 1) default).getD p 0) 64).toNat) ⟨bitsOf .or .u64 (((E.getD (((writesV ((c.blocks.getD k default).ins.getD n default)).getD q 0).toNat) default).getD ((Int.tdiv (((z.getD k default).getD (n + 1) default).getD p 0) 64).toNat) default).n) (IntKind.u64.wrap (1 * 2 ^ (Nat.min ((Int.tmod (((z.getD k default).getD (n + 1) default).getD p 0) 64).toNat) 64)))⟩)).getD (((z.getD k default).getD (n + 1) default).getD p 0).toNat default) dK := bf
         have gH := OS.nlen bf
         have gP : in64 ((writesV ((c.blocks.getD k default).ins.getD n default)).getD q 0) → in64 (Int.tdiv ((writesV ((c.blocks.getD k default).ins.getD n default)).getD q 0) 64) := fun h => vq h (by decide)
         obtain ⟨gj, d8⟩ := Sv.view (OS.sv bf bw (i := 9) rfl)
         have hA := fU (d8 ((Int.tdiv ((writesV ((c.blocks.getD k default).ins.getD n default)).getD q 0) 64).toNat))
         refine wro 14 0 [(0, .o (.slice Z I.length ab)), (3, .o (.slice (I.getD (((z.getD k default).getD (n + 1) default).getD p 0).toNat default).a (I.getD (((z.getD k default).getD (n + 1) default).getD p 0).toNat default).n (I.getD (((z.getD k default).getD (n + 1) default).getD p 0).toNat default).k)), (7, .o (.int .u64 ((((E.set (((writesV ((c.blocks.getD k default).ins.getD n default)).getD q 0).toNat) ((E.getD (((writesV ((c.blocks.getD k default).ins.getD n default)).getD q 0).toNat) default).set ((Int.tdiv (((z.getD k default).getD (n + 1) default).getD p 0) 64).toNat) ⟨bitsOf .or .u64 (((E.getD (((writesV ((c.blocks.getD k default).ins.getD n default)).getD q 0).toNat) default).getD ((Int.tdiv (((z.getD k default).getD (n + 1) default).getD p 0) 64).toNat) default).n) (IntKind.u64.wrap (1 * 2 ^ (Nat.min ((Int.tmod (((z.getD k default).getD (n + 1) default).getD p 0) 64).toNat) 64)))⟩)).getD (((z.getD k default).getD (n + 1) default).getD p 0).toNat default).getD ((Int.tdiv ((writesV ((c.blocks.getD k default).ins.getD n default)).getD q 0) 64).toNat) default).n)))] 19 32 [] [(31, (.int .u64 (bitsOf .or .u64 ((((E.set (((writesV ((c.blocks.getD k default).ins.getD n default)).getD q 0).toNat) ((E.getD (((writesV ((c.blocks.getD k default).ins.getD n default)).getD q 0).toNat) default).set ((Int.tdiv (((z.getD k default).getD (n + 1) default).getD p 0) 64).toNat) ⟨bitsOf .or .u64 (((E.getD (((writesV ((c.blocks.getD k default).ins.getD n default)).getD q 0).toNat) default).getD ((Int.tdiv (((z.getD k default).getD (n + 1) default).getD p 0) 64).toNat) default).n) (IntKind.u64.wrap (1 * 2 ^ (Nat.min ((Int.tmod (((z.getD k default).getD (n + 1) default).getD p 0) 64).toNat) 64)))⟩)).getD (((z.getD k default).getD (n + 1) default).getD p 0).toNat default).getD ((Int.tdiv ((writesV ((c.blocks.getD k default).ins.getD n default)).getD q 0) 64).toNat) default).n) (IntKind.u64.wrap (1 * 2 ^ (Nat.min ((Int.tmod ((writesV ((c.blocks.getD k default).ins.getD n default)).getD q 0) 64).toNat) 64)))))), (32, (.pointer (some ⟨sB (.slice (I.getD (((z.getD k default).getD (n + 1) default).getD p 0).toNat default).a (I.getD (((z.getD k default).getD (n + 1) default).getD p 0).toNat default).n (I.getD (((z.getD k default).getD (n + 1) default).getD p 0).toNat default).k), sO (.slice (I.getD (((z.getD k default).getD (n + 1) default).getD p 0).toNat default).a (I.getD (((z.getD k default).getD (n + 1) default).getD p 0).toNat default).n (I.getD (((z.getD k default).getD (n + 1) default).getD p 0).toNat default).k) + ((Int.tdiv ((writesV ((c.blocks.getD k default).ins.getD n default)).getD q 0) 64).toNat) * Rp.sz U64, none⟩)))] (vA (ql 85 0 (HS.hc bu (i := 3) rfl) rfl rfl) (vA (Sv.ix (j := (((z.getD k default).getD (n + 1) default).getD p 0)) (OS.sv al bu (i := 1) rfl) (by first | (dsimp only; omega) | omega | exact bits_rng _ _ _ | (dsimp only; exact bits_rng _ _ _)) (by first | (dsimp only; omega) | omega | exact bits_rng _ _ _ | (dsimp only; exact bits_rng _ _ _))) (vA (ql 86 0 (vH (eZ (((z.getD k default).getD (n + 1) default).getD p 0).toNat) (by first | (dsimp only; omega) | omega | exact bits_rng _ _ _ | (dsimp only; exact bits_rng _ _ _))) rfl rfl) (vA (vA (show (64 : Int) ≠ 0 from by decide) (vq (a := ((writesV ((c.blocks.getD k default).ins.getD n default)).getD q 0)) (b := 64) (by first | (dsimp only; omega) | omega | exact bits_rng _ _ _ | (dsimp only; exact bits_rng _ _ _)) (by decide))) (vA (Sv.ix (j := Int.tdiv ((writesV ((c.blocks.getD k default).ins.getD n default)).getD q 0) 64) (OS.sv bf bw (i := 9) rfl) (by first | (dsimp only; omega) | omega | exact bits_rng _ _ _ | (dsimp only; exact bits_rng _ _ _)) (by first | (dsimp only; omega) | omega | exact bits_rng _ _ _ | (dsimp only; exact bits_rng _ _ _))) (vA (ql 87 0 (vU (d8 ((Int.tdiv ((writesV ((c.blocks.getD k default).ins.getD n default)).getD q 0) 64).toNat)) (by first | (dsimp only; omega) | omega | exact bits_rng _ _ _ | (dsimp only; exact bits_rng _ _ _))) rfl rfl) (vA (show (64 : Int) ≠ 0 from by decide) (vA (vu (n := Int.tmod ((writesV ((c.blocks.getD k default).ins.getD n default)).getD q 0) 64) (by first | (dsimp only; omega) | omega | exact bits_rng _ _ _ | (dsimp only; exact bits_rng _ _ _))) (vA (show (0 : Int) ≤ Int.tmod ((writesV ((c.blocks.getD k default).ins.getD n default)).getD q 0) 64 from by first | (dsimp only; omega) | omega | exact bits_rng _ _ _ | (dsimp only; exact bits_rng _ _ _)) (vA (Sv.ix (j := Int.tdiv ((writesV ((c.blocks.getD k default).ins.getD n default)).getD q 0) 64) (OS.sv bf bw (i := 9) rfl) (by first | (dsimp only; omega) | omega | exact bits_rng _ _ _ | (dsimp only; exact bits_rng _ _ _)) (by first | (dsimp only; omega) | omega | exact bits_rng _ _ _ | (dsimp only; exact bits_rng _ _ _))) trivial)))))))))) (by kernel_rfl) rfl fun _ => ?_
         refine wo_rk (rs_st (α := U64) (j := (Int.tdiv ((writesV ((c.blocks.getD k default).ins.getD n default)).getD q 0) 64).toNat) (off := 0) (q := 9) ⟨bitsOf .or .u64 ((((E.set (((writesV ((c.blocks.getD k default).ins.getD n default)).getD q 0).toNat) ((E.getD (((writesV ((c.blocks.getD k default).ins.getD n default)).getD q 0).toNat) default).set ((Int.tdiv (((z.getD k default).getD (n + 1) default).getD p 0) 64).toNat) ⟨bitsOf .or .u64 (((E.getD (((writesV ((c.blocks.getD k default).ins.getD n default)).getD q 0).toNat) default).getD ((Int.tdiv (((z.getD k default).getD (n + 1) default).getD p 0) 64).toNat) default).n) (IntKind.u64.wrap (1 * 2 ^ (Nat.min ((Int.tmod (((z.getD k default).getD (n + 1) default).getD p 0) 64).toNat) 64)))⟩)).getD (((z.getD k default).getD (n + 1) default).getD p 0).toNat default).getD ((Int.tdiv ((writesV ((c.blocks.getD k default).ins.getD n default)).getD q 0) 64).toNat) default).n) (IntKind.u64.wrap (1 * 2 ^ (Nat.min ((Int.tmod ((writesV ((c.blocks.getD k default).ins.getD n default)).getD q 0) 64).toNat) 64)))⟩ bf bw rfl rfl rfl rfl rfl rfl rfl rfl (getD_at (x := default) (by first | (dsimp only; omega) | omega | exact bits_rng _ _ _ | (dsimp only; exact bits_rng _ _ _))) rfl (by rintro cs ⟨rfl, _⟩; exact ⟨Nat.le_of_ble_eq_true rfl, rfl, by first | (dsimp only; omega) | omega | exact bits_rng _ _ _ | (dsimp only; exact bits_rng _ _ _)⟩)) rfl ?_
         rintro _ ha fv ⟨dZ, cZ, _⟩
         have cZ : HS _ _ _ [_, _, _, _, _, _, _, _, _, fv] _ := cZ
         have fS := OS.len' dZ
         refine wo_end 0 rfl ?_
         obtain ⟨dM, c0, dV⟩ := SF.shut eS (Fz.le_refl _) cZ (q := 2) (m := 9) (by decide) rfl rfl dZ
         have c0 : HS _ _ _ [_, _, dM, _, _, _, _, _, _, []] _ := c0
         have gq := FAM.len dV
         refine wk_skip_nil ⟨.inl rfl, _, rfl, I, (E.set (((writesV ((c.blocks.getD k default).ins.getD n default)).getD q 0).toNat) ((E.getD (((writesV ((c.blocks.getD k default).ins.getD n default)).getD q 0).toNat) default).set ((Int.tdiv (((z.getD k default).getD (n + 1) default).getD p 0) 64).toNat) ⟨bitsOf .or .u64 (((E.getD (((writesV ((c.blocks.getD k default).ins.getD n default)).getD q 0).toNat) default).getD ((Int.tdiv (((z.getD k default).getD (n + 1) default).getD p 0) 64).toNat) default).n) (IntKind.u64.wrap (1 * 2 ^ (Nat.min ((Int.tmod (((z.getD k default).getD (n + 1) default).getD p 0) 64).toNat) 64)))⟩)).set (((z.getD k default).getD (n + 1) default).getD p 0).toNat (((E.set (((writesV ((c.blocks.getD k default).ins.getD n default)).getD q 0).toNat) ((E.getD (((writesV ((c.blocks.getD k default).ins.getD n default)).getD q 0).toNat) default).set ((Int.tdiv (((z.getD k default).getD (n + 1) default).getD p 0) 64).toNat) ⟨bitsOf .or .u64 (((E.getD (((writesV ((c.blocks.getD k default).ins.getD n default)).getD q 0).toNat) default).getD ((Int.tdiv (((z.getD k default).getD (n + 1) default).getD p 0) 64).toNat) default).n) (IntKind.u64.wrap (1 * 2 ^ (Nat.min ((Int.tmod (((z.getD k default).getD (n + 1) default).getD p 0) 64).toNat) 64)))⟩)).getD (((z.getD k default).getD (n + 1) default).getD p 0).toNat default).set ((Int.tdiv ((writesV ((c.blocks.getD k default).ins.getD n default)).getD q 0) 64).toNat) ⟨bitsOf .or .u64 ((((E.set (((writesV ((c.blocks.getD k default).ins.getD n default)).getD q 0).toNat) ((E.getD (((writesV ((c.blocks.getD k default).ins.getD n default)).getD q 0).toNat) default).set ((Int.tdiv (((z.getD k default).getD (n + 1) default).getD p 0) 64).toNat) ⟨bitsOf .or .u64 (((E.getD (((writesV ((c.blocks.getD k default).ins.getD n default)).getD q 0).toNat) default).getD ((Int.tdiv (((z.getD k default).getD (n + 1) default).getD p 0) 64).toNat) default).n) (IntKind.u64.wrap (1 * 2 ^ (Nat.min ((Int.tmod (((z.getD k default).getD (n + 1) default).getD p 0) 64).toNat) 64)))⟩)).getD (((z.getD k default).getD (n + 1) default).getD p 0).toNat default).getD ((Int.tdiv ((writesV ((c.blocks.getD k default).ins.getD n default)).getD q 0) 64).toNat) default).n) (IntKind.u64.wrap (1 * 2 ^ (Nat.min ((Int.tmod ((writesV ((c.blocks.getD k default).ins.getD n default)).getD q 0) 64).toNat) 64)))⟩), ap, Z, ab, dM, _, (Fz.le_refl _), (HS.sub c0 (List.sublist_append_left _ _)), al, dV, rfl, (by exact con_two (by omega) (by omega) hax List.length_set List.length_set (fun i => add_ok (by omega) (by assumption) i) (fun i => add_ok (by omega) (by assumption) i))⟩
        rintro _ g8 ⟨rhc, rlc, aT, aQ, aS, bn, gR, eT, eX, cB, cz, rfl, hcon⟩
        have ff := FAM.len cz
        refine wo_nil ?_
        refine wk_foc 2 rfl ?_
        refine wr 1 [] 73 73 [98] [(73, (.int .i64 ((p : Int) + 1)))] (vA (vi (n := (p : Int) + 1) (by first | (dsimp only; omega) | omega)) trivial) (by kernel_rfl) rfl fun _ => ?_
        refine d9 _ _ _ ?_ ⟨rhc, rlc, p + 1, aT, aQ, aS, bn, _, (Fz.le_trans (cb) eT), eX, cB, cz, (agC rfl (agC rfl (agC rfl (agC rfl (agC rfl (agC rfl (agC rfl (agC rfl (agC rfl (agC rfl (agC rfl (agC rfl (agC rfl (agC rfl (agC rfl (agC rfl (agC rfl (agC rfl (agC rfl (agC rfl (agC rfl (agC rfl (agC rfl (agC rfl (agC rfl (agC rfl (agC rfl (agC rfl (agC rfl (agC rfl agN)))))))))))))))))))))))))))))), rfl, (by first | exact rw_yes (by omega) bD hcon hwq.1 hxp.1 hne | exact rw_no (by omega) bD hne), (by first | assumption | omega | (simp at *; omega))⟩
        omega
       ·
        have cv := cP
        try simp only [BS] at cv
        have bQ := cv
        have hne : ¬ eok c k n ((writesV ((c.blocks.getD k default).ins.getD n default)).getD q 0) ((((z.getD k default).getD (n + 1) default)).getD p 0) := fun he => he.2 (bQ he.1)
        refine wr 1 [] 73 73 [98] [(73, (.int .i64 ((p : Int) + 1)))] (vA (vi (n := (p : Int) + 1) (by first | (dsimp only; omega) | omega)) trivial) (by kernel_rfl) rfl fun _ => ?_
        refine d9 _ _ _ ?_ ⟨I, E, p + 1, ap, Z, ab, a7, _, (cb), aV, al, bm, (agC rfl (agC rfl (agC rfl (agC rfl (agC rfl (agC rfl (agC rfl (agC rfl (agC rfl (agC rfl (agC rfl (agC rfl (agC rfl (agC rfl (agC rfl (agC rfl (agC rfl (agC rfl (agC rfl (agC rfl (agC rfl (agC rfl (agC rfl (agC rfl (agC rfl (agC rfl (agC rfl (agC rfl (agC rfl (agC rfl agN)))))))))))))))))))))))))))))), rfl, (by first | exact rw_yes (by omega) bD hcon hwq.1 hxp.1 hne | exact rw_no (by omega) bD hne), (by first | assumption | omega | (simp at *; omega))⟩
        omega
      ·
       have dF := cO
       try simp only [BS] at dF
       refine wr 1 [] 60 60 [99] [(60, (.int .i64 ((q : Int) + 1)))] (vA (vi (n := (q : Int) + 1) (by first | (dsimp only; omega) | omega)) trivial) (by kernel_rfl) rfl fun _ => ?_
       refine e3 _ _ _ ?_ ⟨I, E, q + 1, ap, Z, ab, a7, _, (Fz.le_trans (ca) cb), aV, al, bm, (agC rfl (agC rfl (agC rfl (agC rfl (agC rfl (agC rfl (agC rfl (agC rfl (agC rfl (agC rfl (agC rfl (agC rfl (agC rfl (agC rfl (agC rfl (agC rfl (agC rfl (agC rfl (agC rfl (agC rfl (agC rfl (agC rfl (agC rfl (agC rfl (agC rfl agN))))))))))))))))))))))))), rfl, (by exact rw_e2s pl bD (show q < (writesV ((c.blocks.getD k default).ins.getD n default)).length by omega) (by omega)), (by first | assumption | omega | (simp at *; omega))⟩
       omega
     ·
      have dD := cN
      try simp only [BS] at dD
      refine wr 1 [] 52 52 [100] [(52, (.int .i64 ((n : Int) + 1)))] (vA (vi (n := (n : Int) + 1) (by first | (dsimp only; omega) | omega)) trivial) (by kernel_rfl) rfl fun _ => ?_
      refine e2 _ _ _ ?_ ⟨bX, cF, n + 1, aI, aF, aH, a6, _, (Fz.le_trans (Fz.le_trans (bP) b9) ca), (HS.sub a3 (List.sublist_append_left _ _)), bA, bW, (agC rfl (agC rfl (agC rfl (agC rfl (agC rfl (agC rfl (agC rfl (agC rfl (agC rfl (agC rfl (agC rfl (agC rfl (agC rfl (agC rfl (agC rfl (agC rfl agN)))))))))))))))), rfl, (by exact rw_e1s eC (show (writesV ((c.blocks.getD k default).ins.getD n default)).length ≤ q by omega)), (by first | assumption | omega | (simp at *; omega))⟩
      omega
    ·
     have dC := cM
     try simp only [BS] at dC
     refine wr 1 [] 44 44 [101] [(44, (.int .i64 ((k : Int) + 1)))] (vA (vi (n := (k : Int) + 1) (by first | (dsimp only; omega) | omega)) trivial) (by kernel_rfl) rfl fun _ => ?_
     refine e1 _ _ _ ?_ ⟨bC, cE, k + 1, ax, av, aw, aY, _, (Fz.le_trans (bO) bP), (HS.sub cr (List.sublist_append_left _ _)), aR, a5, (agC rfl (agC rfl (agC rfl (agC rfl (agC rfl (agC rfl (agC rfl (agC rfl agN)))))))), rfl, (by exact rw_e0 eB (show (c.blocks.getD k default).ins.length = n by omega)), (by first | assumption | omega | (simp at *; omega))⟩
     omega
   ·
    have dB := cL
    try simp only [BS] at dB
    refine wk_region ?_
    refine wro 2 0 [(1, .o (.int .i64 c.regs))] 102 103 [] [(103, (.int .i64 c.regs))] (vA (ql 3 1 (HS.hc bR (i := 0) rfl) rfl rfl) trivial) (by kernel_rfl) rfl fun _ => ?_
    refine wo_rs (rs_make (default : Hd) bR rfl rfl rfl rfl rfl rfl rfl rfl rfl rfl (by first | (dsimp only; omega) | omega) (by first | (dsimp only; omega) | omega)) rfl rfl ?_
    rintro _ f3 ec ⟨dy, ea, rfl, em, cd, _⟩
    have cd : HS _ _ _ [_, an, aO, [(N, .cells [(.slice ah aK.length aj)] none false)], _, ec] _ := cd
    have bH := HS.snoc cd
    have bH : HS _ _ _ [_, _, _, _, _, _, []] _ := bH
    have dg : SF dw (List.replicate c.regs.toNat (default : Hd)) (List.replicate c.regs.toNat ([] : List Int)) [] := SF.rep _
    have fB := FAM.len dg
    refine wa (.slice dy (List.replicate c.regs.toNat (default : Hd)).length ea) rfl rfl rfl ?_
    refine wo_end 3 rfl ?_
    refine wr 2 [(0, .o (.slice ah aK.length aj))] 105 107 [] [(106, (.int .i64 (aK.length : Int))), (107, (.int .i64 0))] (vA (ql 85 0 (HS.hc bH (i := 3) rfl) rfl rfl) trivial) (by kernel_rfl) rfl fun _ => ?_
    refine wk_loop_inv (fun (mm : Nat) f H' => ∃ (bY : List Hd) (dt : List (List U64)) (oh : List Hd) (ol : List (List Int)) (k : Nat) (ar : Option Addr) (au : Nat) (aN : Fp) (aB : Fp) (ay : Option Addr) (aA : Nat) (bc : Fp) (aW : Fp) (F' : Fz), Fz.le dw F' ∧ HS (Base.of H []) F' H' [[(b1, .cells [(.int .i64 c.params), (.int .i64 c.regs), (.slice ad c.blocks.length ae)] none false)], aB, aW, [(N, .cells [(.slice ay bY.length aA)] none false)], bB, aN, bc] R ∧ OS F' (.slice ar oh.length au) oh aN ∧ OS F' (.slice ay bY.length aA) bY aB ∧ SF F' oh ol bc ∧ SF F' bY dt aW ∧ agrees f [(1, (.pointer (some ⟨b1, 0, none⟩))), (2, (.slice none 0 0)), (3, (.pointer (some ⟨N, 0, none⟩))), (15, (.slice ar oh.length au)), (106, (.int .i64 (aK.length : Int))), (107, (.int .i64 (k : Int)))] ∧ mm = c.regs.toNat - k ∧ (RwF c dt (intE c)) ∧ (ol.length = c.regs.toNat) ∧ (∀ r, r < k → Lst (rowN ol r) (Sy (intE c) r)) ∧ (∀ r, k ≤ r → rowN ol r = []) ∧ (k ≤ c.regs.toNat)) _ ⟨aK, cC, List.replicate c.regs.toNat (default : Hd), List.replicate c.regs.toNat ([] : List Int), 0, dy, ea, ec, an, ah, aj, [], aO, _, (Fz.le_refl _), bH, em, bz, dg, bV, (agC rfl (agC rfl (agC rfl (agC rfl (agC rfl (agC rfl agN)))))), rfl, (by exact rw_last ef (by omega)), (by simp), (by intro r hr; omega), (by exact fun r _ => row_rep), (by first | assumption | omega | (simp at *; omega))⟩ ?_
    rintro fZ gk f4 ⟨bY, dt, oh, ol, k, ar, au, aN, aB, ay, aA, bc, aW, eF, db, dn, a1, cu, ba, b0, dh, rfl, eD, ew, dW, ey, hk⟩ et
    refine wk_canon _ dh (fun _ => ?_)
    clear dh
    have eJ := FAM.len ba
    have eI := FAM.len b0
    refine wk_foc 1 rfl ?_
    refine wr 2 [] 108 108 [] [(108, (.bool (decide ((k : Int) < (aK.length : Int)))))] trivial (by kernel_rfl) rfl fun _ => ?_
    refine wk_if 4 5 (v := (decide ((k : Int) < (aK.length : Int)))) rfl rfl rfl rfl (fun b4 => ?_) (fun b4 => ?_)
    ·
     have cG := b4
     try simp only [BS] at cG
     have gC := eD.len
     refine wr 2 [] 109 109 [16] [(16, (.int .i64 (k : Int)))] trivial (by kernel_rfl) rfl fun _ => ?_
     refine wr 2 [] 1 0 [17] [(17, (.int .i64 0))] trivial (by kernel_rfl) rfl fun _ => ?_
     refine wk_loop_inv (fun (mm : Nat) f H' => ∃ (aL : List Hd) (aZ : List (List U64)) (aq : List Hd) (aJ : List (List Int)) (n : Nat) (U : Option Addr) (V : Nat) (aD : Fp) (ak : Fp) (Y : Option Addr) (aa : Nat) (aM : Fp) (bd : Fp) (F' : Fz), Fz.le eF F' ∧ HS (Base.of H []) F' H' [[(b1, .cells [(.int .i64 c.params), (.int .i64 c.regs), (.slice ad c.blocks.length ae)] none false)], ak, bd, [(N, .cells [(.slice Y aL.length aa)] none false)], bB, aD, aM] R ∧ OS F' (.slice U aq.length V) aq aD ∧ OS F' (.slice Y aL.length aa) aL ak ∧ SF F' aq aJ aM ∧ SF F' aL aZ bd ∧ agrees f [(1, (.pointer (some ⟨b1, 0, none⟩))), (2, (.slice none 0 0)), (3, (.pointer (some ⟨N, 0, none⟩))), (15, (.slice U aq.length V)), (16, (.int .i64 (k : Int))), (17, (.int .i64 (n : Int))), (106, (.int .i64 (aK.length : Int))), (107, (.int .i64 (k : Int))), (108, (.bool (decide ((k : Int) < (aK.length : Int)))))] ∧ mm = c.regs.toNat - n ∧ (RwF c aZ (intE c)) ∧ (aJ.length = c.regs.toNat) ∧ (∀ r, r < k → Lst (rowN aJ r) (Sy (intE c) r)) ∧ (∀ r, k < r → rowN aJ r = []) ∧ (Lst (rowN aJ k) (upS aZ k n)) ∧ (n ≤ c.regs.toNat)) _ ⟨bY, dt, oh, ol, 0, ar, au, aN, aB, ay, aA, bc, aW, _, (Fz.le_refl _), dn, a1, cu, ba, b0, (agC rfl (agC rfl (agC rfl (agC rfl (agC rfl (agC rfl (agC rfl (agC rfl (agC rfl agN))))))))), rfl, (by exact eD), (by first | assumption | omega | (simp at *; omega)), (by exact dW), (by exact fun r hr => ey r (by omega)), (by rw [ey k (Nat.le_refl _)]; exact up_zero), (by first | assumption | omega | (simp at *; omega))⟩ ?_
     rintro f0 gm f5 ⟨aL, aZ, aq, aJ, n, U, V, aD, ak, Y, aa, aM, bd, dv, b7, a8, aC, az, bb, bx, di, rfl, b2, dm, cw, cx, bZ, hn⟩ dq
     refine wk_canon _ di (fun _ => ?_)
     clear di
     have eL := FAM.len bb
     have eK := FAM.len bx
     have eU := b2.len
     have eW := b2.row k (by omega)
     have gw : ((aJ.getD k default).length : Int) ≤ c.regs := Lst.len bZ hrg.1 (fun r h => by have := h.2; omega)
     refine wk_foc 2 rfl ?_
     refine wr 1 [(2, .o (.int .i64 c.regs))] 110 113 [] [(113, (.bool (decide ((n : Int) < c.regs))))] (vA (ql 3 1 (HS.hc a8 (i := 0) rfl) rfl rfl) trivial) (by kernel_rfl) rfl fun _ => ?_
     refine wk_if 4 5 (v := (decide ((n : Int) < c.regs))) rfl rfl rfl rfl (fun b5 => ?_) (fun b5 => ?_)
     ·
      have cH := b5
      try simp only [BS] at cH
      have eU := b2.len
      have eW := b2.row k (by omega)
      obtain ⟨fw, er⟩ := Sv.view (OS.sv az a8 (i := 1) rfl)
      obtain ⟨eg, c4, aP, a0, da⟩ := SF.open bx a8 (q := 2) (i := k) rfl (by first | (dsimp only; omega) | omega)
      have aP : HS _ _ _ [_, ak, eg, [(N, .cells [(.slice Y aL.length aa)] none false)], _, aD, aM, c4] _ := aP
      have a0 : OS dv (.slice (aL.getD k default).a (aL.getD k default).n (aL.getD k default).k) (aZ.getD k default) c4 := a0
      have fW := OS.nlen a0
      obtain ⟨fy, dp⟩ := Sv.view (OS.sv a0 aP (i := 7) rfl)
      have gt := fU (dp (n / 64))
      refine wr 1 [(0, .o (.slice Y aL.length aa)), (3, .o (.slice (aL.getD k default).a (aL.getD k default).n (aL.getD k default).k)), (7, .o (.int .u64 ((aZ.getD k default).getD (n / 64) default).n))] 116 129 [] [(129, (.bool (bitsOf .and .u64 (Int.fdiv ((aZ.getD k default).getD (n / 64) default).n (2 ^ (Nat.min (n % 64) 64))) 1 == 1)))] (vA (ql 85 0 (HS.hc a8 (i := 3) rfl) rfl rfl) (vA (Sv.ix (j := (k : Int)) (OS.sv az a8 (i := 1) rfl) (by first | (dsimp only; omega) | omega) (by first | (dsimp only; omega) | omega)) (vA (ql 86 0 (vH (er k) (by first | (dsimp only; omega) | omega)) rfl rfl) (vA (vA (show (64 : Int) ≠ 0 from by decide) (vi (n := ((n / 64 : Nat) : Int)) (by first | (dsimp only; omega) | omega))) (vA (Sv.ix (j := ((n / 64 : Nat) : Int)) (OS.sv a0 aP (i := 7) rfl) (by first | (dsimp only; omega) | omega) (by first | (dsimp only; omega) | omega)) (vA (ql 87 0 (vU (dp (n / 64)) (by first | (dsimp only; omega) | omega)) rfl rfl) (vA (show (64 : Int) ≠ 0 from by decide) (vA (vu (n := ((n % 64 : Nat) : Int)) (by first | (dsimp only; omega) | omega)) (vA (show (0 : Int) ≤ ((n % 64 : Nat) : Int) from by first | (dsimp only; omega) | omega) trivial))))))))) (by kernel_rfl) rfl fun _ => ?_
      refine wk_if 0 2 (v := (bitsOf .and .u64 (Int.fdiv ((aZ.getD k default).getD (n / 64) default).n (2 ^ (Nat.min (n % 64) 64))) 1 == 1)) rfl rfl rfl rfl (fun b6 => ?_) (fun b6 => ?_)
      ·
       have cI := b6
       try simp only [BS] at cI
       have hbit := list_bit (s := aZ.getD k default) (k := n / 64) (b := n % 64) (by assumption) (by omega)
       rw [show 64 * (n / 64) + n % 64 = n by omega] at hbit
       refine wk_region ?_
       obtain ⟨fA, es⟩ := Sv.view (OS.sv aC aP (i := 5) rfl)
       obtain ⟨eh, c5, ce, bE, ei⟩ := SF.open bb aP (q := 6) (i := k) rfl (by first | (dsimp only; omega) | omega)
       have ce : HS _ _ _ [_, _, _, _, _, _, eh, _, c5] _ := ce
       have bE : OS dv (.slice (aq.getD k default).a (aq.getD k default).n (aq.getD k default).k) (aJ.getD k default) c5 := bE
       have fX := OS.nlen bE
       refine wro 7 0 [(5, .o (.slice (aq.getD k default).a (aq.getD k default).n (aq.getD k default).k))] 130 136 [] [(130, (.slice U aq.length V)), (131, (.int .i64 (k : Int))), (135, (.slice (aq.getD k default).a (aq.getD k default).n (aq.getD k default).k)), (136, (.int .i64 (n : Int)))] (vA (Sv.ix (j := (k : Int)) (OS.sv aC aP (i := 5) rfl) (by first | (dsimp only; omega) | omega) (by first | (dsimp only; omega) | omega)) (vA (ql 25 0 (vH (es k) (by first | (dsimp only; omega) | omega)) rfl rfl) trivial)) (by kernel_rfl) rfl fun _ => ?_
       refine wo_rs (rs_lit (α := Int) (ps := [(0, (.int .i64 (n : Int)))]) (cells := [(.int .i64 (n : Int))]) ([(n : Int)] : List Int) ce rfl rfl rfl (by kernel_rfl) ⟨[(.int .i64 (n : Int))], [], rfl, ⟨rfl, by first | (dsimp only; omega) | omega⟩, rfl⟩ rfl) rfl rfl ?_
       rintro _ f6 e7 ⟨gc, gE, rfl, en, bJ, _⟩
       have bJ : HS _ _ _ [_, _, _, _, _, _, _, _, _, e7] _ := bJ
       refine wo_rs (rs_app (α := Int) (q := 8) bE bJ rfl rfl rfl (OS.sv en bJ (i := 9) rfl) rfl rfl rfl rfl rfl rfl rfl (by first | omega | (simp only [List.length_append, List.length_cons, List.length_nil]; omega))) rfl rfl ?_
       rintro _ f7 e8 ⟨b3, ct, rfl, eo, bK, _⟩
       have bK : HS _ _ _ [_, _, _, _, _, _, _, _, e8, _] _ := bK
       refine wro 1 9 [] 139 139 [] [(139, (.pointer (some ⟨sB (.slice U aq.length V), sO (.slice U aq.length V) + k * Rp.sz Hd, none⟩)))] (vA (Sv.ix (j := (k : Int)) (OS.sv aC bK (i := 5) rfl) (by first | (dsimp only; omega) | omega) (by first | (dsimp only; omega) | omega)) trivial) (by kernel_rfl) rfl fun _ => ?_
       obtain ⟨c7, cg, dj⟩ := SF.shutN (⟨b3, ((aJ.getD k default) ++ ([(n : Int)] : List Int)).length, ct⟩ : Hd) ei (Fz.le_refl _) bK (q := 6) (m := 8) (by decide) rfl rfl eo
       have cg : HS _ _ _ [_, _, _, _, _, _, c7, _, [], _] _ := cg
       have fC := FAM.len dj
       refine wo_rk (rs_st (α := Hd) (j := k) (off := 0) (q := 5) (⟨b3, ((aJ.getD k default) ++ ([(n : Int)] : List Int)).length, ct⟩ : Hd) aC cg rfl rfl rfl rfl rfl rfl rfl rfl (getD_at (x := default) (by first | (dsimp only; omega) | omega)) rfl (by rintro cs rfl; exact ⟨Nat.le_of_ble_eq_true rfl, rfl⟩)) rfl ?_
       rintro _ f8 ed ⟨cc, ch, _⟩
       have ch : HS _ _ _ [_, _, _, _, _, ed, _, _, _, _] _ := ch
       have fo := OS.len' cc
       refine wo_end 2 rfl ?_
       refine wr 1 [] 114 115 [17] [(17, (.int .i64 ((n : Int) + 1)))] (vA (vi (n := (n : Int) + 1) (by first | (dsimp only; omega) | omega)) trivial) (by kernel_rfl) rfl fun _ => ?_
       obtain ⟨c8, ci, dk⟩ := SF.shut0 da (Fz.le_refl _) ch (q := 2) (m := 7) (by decide) rfl rfl a0
       have ci : HS _ _ _ [_, _, c8, _, _, _, _, [], _, _] _ := ci
       have fD := FAM.len dk
       refine dq _ _ _ ?_ ⟨aL, aZ, aq.set k (⟨b3, ((aJ.getD k default) ++ ([(n : Int)] : List Int)).length, ct⟩ : Hd), aJ.set k ((aJ.getD k default) ++ ([(n : Int)] : List Int)), n + 1, U, V, ed, ak, Y, aa, c7, c8, _, (b7), (HS.sub ci (List.sublist_append_left _ _)), (OS.norm cc), az, dj, dk, (agC rfl (agC rfl (agC rfl (agC (show Value.slice U aq.length V = Value.slice U (aq.set k (⟨b3, ((aJ.getD k default) ++ ([(n : Int)] : List Int)).length, ct⟩ : Hd)).length V by rw [OS.len' cc]) (agC rfl (agC rfl (agC rfl (agC rfl (agC rfl agN))))))))), rfl, (by first | assumption | omega | (simp at *; omega)), (by first | exact dm | (rw [List.length_set]; exact dm)), (by exact fun r hr => by first | exact cw r hr | (rw [row_set (by omega), if_neg (by omega)]; exact cw r hr)), (by exact fun r hr => by first | exact cx r hr | (rw [row_set (by omega), if_neg (by omega)]; exact cx r hr)), (by first | (rw [row_set (by omega), if_pos rfl]; exact up_yes bZ (hbit.1 (by assumption))) | exact up_no bZ (fun h => absurd (hbit.2 h) (by assumption))), (by first | assumption | omega | (simp at *; omega))⟩
       omega
      ·
       have cI := b6
       try simp only [BS] at cI
       have hbit := list_bit (s := aZ.getD k default) (k := n / 64) (b := n % 64) (by assumption) (by omega)
       rw [show 64 * (n / 64) + n % 64 = n by omega] at hbit
       refine wr 1 [] 114 115 [17] [(17, (.int .i64 ((n : Int) + 1)))] (vA (vi (n := (n : Int) + 1) (by first | (dsimp only; omega) | omega)) trivial) (by kernel_rfl) rfl fun _ => ?_
       obtain ⟨c9, cj, dl⟩ := SF.shut0 da (Fz.le_refl _) aP (q := 2) (m := 7) (by decide) rfl rfl a0
       have cj : HS _ _ _ [_, _, c9, _, _, _, _, []] _ := cj
       have fE := FAM.len dl
       refine dq _ _ _ ?_ ⟨aL, aZ, aq, aJ, n + 1, U, V, aD, ak, Y, aa, aM, c9, _, (b7), (HS.sub cj (List.sublist_append_left _ _)), aC, az, bb, dl, (agC rfl (agC rfl (agC rfl (agC rfl (agC rfl (agC rfl (agC rfl (agC rfl (agC rfl agN))))))))), rfl, (by first | assumption | omega | (simp at *; omega)), (by first | exact dm | (rw [List.length_set]; exact dm)), (by exact fun r hr => by first | exact cw r hr | (rw [row_set (by omega), if_neg (by omega)]; exact cw r hr)), (by exact fun r hr => by first | exact cx r hr | (rw [row_set (by omega), if_neg (by omega)]; exact cx r hr)), (by first | (rw [row_set (by omega), if_pos rfl]; exact up_yes bZ (hbit.1 (by assumption))) | exact up_no bZ (fun h => absurd (hbit.2 h) (by assumption))), (by first | assumption | omega | (simp at *; omega))⟩
       omega
     ·
      have cH := b5
      try simp only [BS] at cH
      refine wr 1 [] 107 107 [140] [(107, (.int .i64 ((k : Int) + 1)))] (vA (vi (n := (k : Int) + 1) (by first | (dsimp only; omega) | omega)) trivial) (by kernel_rfl) rfl fun _ => ?_
      refine et _ _ _ ?_ ⟨aL, aZ, aq, aJ, k + 1, U, V, aD, ak, Y, aa, aM, bd, _, (Fz.le_trans (db) b7), a8, aC, az, bb, bx, (agC rfl (agC rfl (agC rfl (agC rfl (agC rfl (agC rfl agN)))))), rfl, (by exact b2), (by first | assumption | omega | (simp at *; omega)), (by exact fin_row b2 (by omega) vF (by omega) cw bZ), (by exact fun r hr => cx r (by omega)), (by first | assumption | omega | (simp at *; omega))⟩
      omega
    ·
     have cG := b4
     try simp only [BS] at cG
     refine wr 1 [] 2 2 [141] [(2, (.slice ar oh.length au))] trivial (by kernel_rfl) rfl fun _ => ?_
     obtain ⟨f1, dd, cm, ej⟩ := SF.freeze ba dn (q := 6) rfl
     have cm : HS _ _ _ [_, aB, aW, [(N, .cells [(.slice ay bY.length aA)] none false)], _, aN, _] _ := cm
     replace a1 := a1.mono dd
     obtain ⟨f2, de, cn, ep, fT⟩ := OS.frz a1 cm (i := 5) rfl
     have cn : HS _ _ _ [_, _, _, _, _, [], _] _ := cn
     have bF := SR.rows ep (FAM.len ba) (fun i hi => SR.mono de (ej i hi))
     have fY := SR.len' bF
     have fq := SR.norm bF
     refine wk_ret ⟨.inr rfl, _, rfl, ar, au, ol, _, (Fz.le_trans (Fz.le_trans (Fz.le_trans (Fz.le_trans (Fz.le_trans (Fz.le_trans (df) b8) bN) bO) db) dd) de), (HS.forget cn), (Eq.trans (b := Value.slice ar oh.length au) rfl (by rw [SR.len' bF])), (SR.norm bF), (by first | exact fun h => absurd (h.symm.trans hv) (by decide) | exact fun _ => inf_of ew (by omega) dW), (by first | exact fun _ => rfl | exact fun h => absurd (hv.symm.trans h) (by decide))⟩
end Go.Proofs.YtknafdcgpaejlaaDoor.nb
