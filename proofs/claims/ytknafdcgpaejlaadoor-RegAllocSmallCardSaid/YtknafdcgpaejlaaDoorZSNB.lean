/-
 Interference: the allocator, by a symbolic run. No condition but bounds on lengths.
-/
import Derived.Test.YtknafdcgpaejlaaDoorZSNA
import Derived.Test.YtknafdcgpaejlaaDoorZSRD
noncomputable section
namespace Go.Proofs.YtknafdcgpaejlaaDoor.nb
open Go.R
set_option maxRecDepth 10000
set_option linter.unusedVariables false
set_option linter.unusedSimpArgs false
open m1 m2 m3 m4 m5 m6 ma ml mb mc md mf mg mh mi mj na
abbrev insN (c : VFnT) (b i : Nat) : VInT := (bz c b).ins.getD i default
def eok (c : VFnT) (b i : Nat) (a x : Int) : Prop := x ≠ a ∧ ¬ ((insN c b i).i.op = 10 ∧ x = (insN c b i).i.b)
def edg (c : VFnT) (b i a x : Nat) : Prop := (a : Int) ∈ ab (insN c b i) ∧ ptS c b (i + 1) x ∧ eok c b i a x
def E0 (c : VFnT) (k a x : Nat) : Prop := ∃ b i, b < k ∧ i < (bz c b).ins.length ∧ edg c b i a x
def E1 (c : VFnT) (k n a x : Nat) : Prop := E0 c k a x ∨ ∃ i, i < n ∧ edg c k i a x
def E2 (c : VFnT) (k n q a x : Nat) : Prop := E1 c k n a x ∨ ((a : Int) ∈ (ab (insN c k n)).take q ∧ ptS c k (n + 1) x ∧ eok c k n a x)
def E3 (c : VFnT) (k n q : Nat) (l : List Int) (p a x : Nat) : Prop := E2 c k n q a x ∨ ((a : Int) = (ab (insN c k n)).getD q 0 ∧ (x : Int) ∈ l.take p ∧ eok c k n a x)
def intE (c : VFnT) (a x : Nat) : Prop := E0 c c.blocks.length a x
def Sy (R : Nat → Nat → Prop) (r y : Nat) : Prop := R r y ∨ R y r
theorem Sy.iff {R R' : Nat → Nat → Prop} (h : ∀ a x, R a x ↔ R' a x) (r y : Nat) : Sy R r y ↔ Sy R' r y := or_congr (h r y) (h y r)
structure RwF (c : VFnT) (rl : List (List U64)) (R : Nat → Nat → Prop) : Prop where
 len : rl.length = c.regs.toNat
 row : ∀ r, r < c.regs.toNat → (rl.getD r default).length = wds c
 bit : ∀ r, r < c.regs.toNat → ∀ y, bI rl r y ↔ Sy R r y
theorem RwF.iff {c : VFnT} {rl : List (List U64)} {R R' : Nat → Nat → Prop} (h : RwF c rl R) (k : ∀ a x, R a x ↔ R' a x) : RwF c rl R' := ⟨h.len, h.row, fun r hr y => (h.bit r hr y).trans (Sy.iff k r y)⟩
theorem rw_zero {c : VFnT} {rl : List (List U64)} {k : Nat} (hl : rl.length = c.regs.toNat) (hk : c.regs.toNat ≤ k) (h : ∀ j, j < k → rl.getD j default = List.replicate (wds c) ⟨0⟩) : RwF c rl (E0 c 0) := by
 refine ⟨hl, fun r hr => by rw [h r (by omega), List.length_replicate], fun r hr y => ?_⟩
 unfold bI
 rw [h r (by omega), bit_rep]
 constructor
 ·
  intro h; cases h
 rintro (⟨b, _, h, _⟩ | ⟨b, _, h, _⟩) <;> exact absurd h (Nat.not_lt_zero _)
theorem rw_e0 {c : VFnT} {rl : List (List U64)} {k n : Nat} (h : RwF c rl (E1 c k n)) (hn : (bz c k).ins.length = n) : RwF c rl (E0 c (k + 1)) := h.iff fun a x => by
 unfold E1 E0
 constructor
 ·
  rintro (⟨b, i, E, A⟩ | ⟨i, E, A⟩)
  ·
   exact ⟨b, i, by omega, A⟩
  exact ⟨k, i, Nat.lt_succ_self _, by omega, A⟩
 rintro ⟨b, i, E, A, I⟩
 rcases Nat.lt_or_ge b k with hb | hb
 ·
  exact .inl ⟨b, i, hb, A, I⟩
 have : b = k := by omega
 subst this; exact .inr ⟨i, by omega, I⟩
theorem rw_e1 {c : VFnT} {rl : List (List U64)} {k : Nat} (h : RwF c rl (E0 c k)) : RwF c rl (E1 c k 0) := h.iff fun a x => ⟨.inl, fun h => h.elim id fun ⟨i, h, _⟩ => absurd h (Nat.not_lt_zero _)⟩
theorem rw_e1s {c : VFnT} {rl : List (List U64)} {k n q : Nat} (h : RwF c rl (E2 c k n q)) (hq : (ab (insN c k n)).length ≤ q) : RwF c rl (E1 c k (n + 1)) := h.iff fun a x => by
 unfold E2 E1
 rw [List.take_of_length_le hq]
 constructor
 ·
  rintro ((h | ⟨i, E, A⟩) | h)
  ·
   exact .inl h
  ·
   exact .inr ⟨i, by omega, A⟩
  exact .inr ⟨n, Nat.lt_succ_self _, h⟩
 rintro (h | ⟨i, E, A⟩)
 ·
  exact .inl (.inl h)
 rcases Nat.lt_or_ge i n with hi | hi
 ·
  exact .inl (.inr ⟨i, hi, A⟩)
 have : i = n := by omega
 subst this; exact .inr A
theorem rw_e2 {c : VFnT} {rl : List (List U64)} {k n : Nat} (h : RwF c rl (E1 c k n)) : RwF c rl (E2 c k n 0) := h.iff fun a x => ⟨.inl, fun h => h.elim id fun h => by simp at h⟩
theorem rw_e2s {c : VFnT} {rl : List (List U64)} {k n q p : Nat} {l : List Int} (hl : Lst l (ptS c k (n + 1))) (h : RwF c rl (E3 c k n q l p)) (hq : q < (ab (insN c k n)).length) (hp : l.length ≤ p) : RwF c rl (E2 c k n (q + 1)) := h.iff fun a x => by
 unfold E3 E2
 rw [List.take_of_length_le hp, bn hq (d := 0), List.mem_append, List.mem_singleton, hl.mem]
 have e : ((x : Int)).toNat = x := by omega
 rw [e]
 constructor
 ·
  rintro ((h | ⟨A, E, I⟩) | ⟨A, ⟨_, E⟩, I⟩)
  ·
   exact .inl h
  ·
   exact .inr ⟨.inl A, E, I⟩
  exact .inr ⟨.inr A, E, I⟩
 rintro (h | ⟨A | A, E, I⟩)
 ·
  exact .inl (.inl h)
 ·
  exact .inl (.inr ⟨A, E, I⟩)
 exact .inr ⟨A, ⟨by omega, E⟩, I⟩
theorem rw_e3 {c : VFnT} {rl : List (List U64)} {k n q : Nat} {l : List Int} (h : RwF c rl (E2 c k n q)) : RwF c rl (E3 c k n q l 0) := h.iff fun a x => ⟨.inl, fun h => h.elim id fun h => by simp at h⟩
theorem e3_step {c : VFnT} {k n q p : Nat} {l : List Int} (hp : p < l.length) (a x : Nat) : E3 c k n q l (p + 1) a x ↔ (E3 c k n q l p a x ∨ ((a : Int) = (ab (insN c k n)).getD q 0 ∧ (x : Int) = l.getD p 0 ∧ eok c k n a x)) := by
 unfold E3
 rw [bn hp (d := 0), List.mem_append, List.mem_singleton]
 constructor
 ·
  rintro (h | ⟨E, A | A, I⟩)
  ·
   exact .inl (.inl h)
  ·
   exact .inl (.inr ⟨E, A, I⟩)
  exact .inr ⟨E, A, I⟩
 rintro ((h | ⟨E, A, I⟩) | ⟨E, A, I⟩)
 ·
  exact .inl h
 ·
  exact .inr ⟨E, .inl A, I⟩
 exact .inr ⟨E, .inr A, I⟩
theorem rw_no {c : VFnT} {rl : List (List U64)} {k n q p : Nat} {l : List Int} (hp : p < l.length) (h : RwF c rl (E3 c k n q l p)) (hn : ¬ eok c k n ((ab (insN c k n)).getD q 0) (l.getD p 0)) : RwF c rl (E3 c k n q l (p + 1)) := h.iff fun a x => by
 rw [e3_step hp]
 exact ⟨.inl, fun h => h.elim id fun ⟨E, I, A⟩ => absurd (by rw [E, I] at A; exact A) hn⟩
structure Con (rl rl' : List (List U64)) (a x : Int) : Prop where
 len : rl'.length = rl.length
 row : ∀ r, (rl'.getD r default).length = (rl.getD r default).length
 bit : ∀ r y, bI rl' r y ↔ (bI rl r y ∨ (r = a.toNat ∧ y = x.toNat) ∨ (r = x.toNat ∧ y = a.toNat))
theorem eok_of {c : VFnT} {k n : Nat} {a x : Int} (h : eok c k n a x) (ha : 0 ≤ a) (hx : 0 ≤ x) : eok c k n ((a.toNat : Nat) : Int) ((x.toNat : Nat) : Int) := by rwa [Int.toNat_of_nonneg ha, Int.toNat_of_nonneg hx]
theorem rw_yes {c : VFnT} {rl rl' : List (List U64)} {k n q p : Nat} {l : List Int} (hp : p < l.length) (h : RwF c rl (E3 c k n q l p)) (hc : Con rl rl' ((ab (insN c k n)).getD q 0) (l.getD p 0)) (ha : 0 ≤ (ab (insN c k n)).getD q 0) (hx : 0 ≤ l.getD p 0) (hn : eok c k n ((ab (insN c k n)).getD q 0) (l.getD p 0)) : RwF c rl' (E3 c k n q l (p + 1)) := by
 refine ⟨hc.len.trans h.len, fun r hr => (hc.row r).trans (h.row r hr), fun r hr y => ?_⟩
 rw [hc.bit, h.bit r hr]
 unfold Sy
 rw [e3_step hp, e3_step hp]
 constructor
 ·
  rintro ((A | A) | ⟨A, E⟩ | ⟨A, E⟩)
  ·
   exact .inl (.inl A)
  ·
   exact .inr (.inl A)
  ·
   subst A E; exact .inl (.inr ⟨by omega, by omega, eok_of hn ha hx⟩)
  subst A E; exact .inr (.inr ⟨by omega, by omega, eok_of hn ha hx⟩)
 rintro ((A | ⟨A, E, _⟩) | (A | ⟨A, E, _⟩))
 ·
  exact .inl (.inl A)
 ·
  exact .inr (.inl ⟨by omega, by omega⟩)
 ·
  exact .inl (.inr A)
 exact .inr (.inr ⟨by omega, by omega⟩)
theorem con_two {rl : List (List U64)} {a b : Int} {A E : List U64} (ha : a.toNat < rl.length) (hb : b.toNat < rl.length) (hab : a.toNat ≠ b.toNat) (Z : A.length = (rl.getD a.toNat default).length) (U : E.length = ((rl.set a.toNat A).getD b.toNat default).length)
  (V : ∀ i, ap A i = (ap (rl.getD a.toNat default) i || decide (i = b.toNat))) (T : ∀ i, ap E i = (ap ((rl.set a.toNat A).getD b.toNat default) i || decide (i = a.toNat))) : Con rl ((rl.set a.toNat A).set b.toNat E) a b := by
 have O : ∀ r, (rl.set a.toNat A).getD r default = if a.toNat = r then A else rl.getD r default := fun r => by
  rw [ec]
  by_cases h : a.toNat = r
  ·
   subst h; rw [if_pos ⟨rfl, ha⟩, if_pos rfl]
  rw [if_neg (fun e => h e.1), if_neg h]
 rw [O, if_neg hab] at U T
 have e : ∀ r, ((rl.set a.toNat A).set b.toNat E).getD r default = if b.toNat = r then E else if a.toNat = r then A else rl.getD r default := fun r => by
  rw [ec, O]
  by_cases h : b.toNat = r
  ·
   subst h; rw [if_pos ⟨rfl, by rw [List.length_set]; exact hb⟩, if_pos rfl]
  rw [if_neg (fun e => h e.1), if_neg h]
 refine ⟨by rw [List.length_set, List.length_set], fun r => ?_, fun r y => ?_⟩
 ·
  rw [e]
  split
  ·
   rename_i h; subst h; exact U
  split
  ·
   rename_i h; subst h; exact Z
  rfl
 unfold bI
 rw [e]
 by_cases h : b.toNat = r
 ·
  subst h
  rw [if_pos rfl, T, Bool.or_eq_true, decide_eq_true_eq]
  constructor
  ·
   rintro (h | h)
   ·
    exact .inl h
   exact .inr (.inr ⟨rfl, h⟩)
  rintro (h | ⟨h, _⟩ | ⟨_, h⟩)
  ·
   exact .inl h
  ·
   exact absurd h.symm hab
  exact .inr h
 rw [if_neg h]
 by_cases I : a.toNat = r
 ·
  subst I
  rw [if_pos rfl, V, Bool.or_eq_true, decide_eq_true_eq]
  constructor
  ·
   rintro (h | h)
   ·
    exact .inl h
   exact .inr (.inl ⟨rfl, h⟩)
  rintro (h | ⟨_, h⟩ | ⟨h, _⟩)
  ·
   exact .inl h
  ·
   exact .inr h
  exact absurd h hab
 rw [if_neg I]
 exact ⟨.inl, fun J => J.elim id fun J => by rcases J with ⟨N, _⟩ | ⟨N, _⟩; exact absurd N.symm I; exact absurd N.symm h⟩
def upS (rl : List (List U64)) (k n y : Nat) : Prop := bI rl k y ∧ y < n
theorem up_zero {rl : List (List U64)} {k : Nat} : Lst [] (upS rl k 0) := Lst.nil fun r h => Nat.not_lt_zero _ h.2
theorem Lst.snoc {l : List Int} {S : Nat → Prop} {n : Nat} (h : Lst l S) (hb : ∀ y, S y → y < n) : Lst (l ++ [(n : Int)]) (fun y => S y ∨ y = n) := by
 refine ⟨List.pairwise_append.2 ⟨h.asc, List.pairwise_singleton _ _, fun x hx y hy => ?_⟩, fun x => ?_⟩
 ·
  rw [List.mem_singleton] at hy; subst hy
  have := (h.mem x).1 hx
  have := hb _ this.2
  omega
 rw [List.mem_append, List.mem_singleton, h.mem]
 constructor
 ·
  rintro (A | A)
  ·
   exact ⟨A.1, .inl A.2⟩
  exact ⟨by omega, .inr (by omega)⟩
 rintro ⟨A, E | E⟩
 ·
  exact .inl ⟨A, E⟩
 exact .inr (by omega)
theorem up_yes {rl : List (List U64)} {k n : Nat} {l : List Int} (h : Lst l (upS rl k n)) (hb : bI rl k n) : Lst (l ++ [(n : Int)]) (upS rl k (n + 1)) := Lst.ext (Lst.snoc h fun y hy => hy.2) fun y => by
 unfold upS
 constructor
 ·
  rintro (⟨A, I⟩ | rfl)
  ·
   exact ⟨A, by omega⟩
  exact ⟨hb, Nat.lt_succ_self _⟩
 rintro ⟨A, I⟩
 rcases Nat.lt_or_ge y n with E | E
 ·
  exact .inl ⟨A, E⟩
 exact .inr (by omega)
theorem up_no {rl : List (List U64)} {k n : Nat} {l : List Int} (h : Lst l (upS rl k n)) (hb : ¬ bI rl k n) : Lst l (upS rl k (n + 1)) := Lst.ext h fun y => by
 unfold upS
 constructor
 ·
  rintro ⟨A, I⟩; exact ⟨A, by omega⟩
 rintro ⟨A, I⟩
 refine ⟨A, ?_⟩
 rcases Nat.lt_or_ge y n with E | E
 ·
  exact E
 have : y = n := by omega
 subst this; exact absurd A hb
theorem rw_last {c : VFnT} {rl : List (List U64)} {k : Nat} (h : RwF c rl (E0 c k)) (hk : k = c.blocks.length) : RwF c rl (intE c) := by subst hk; exact h
theorem row_rep {n r : Nat} : ej (List.replicate n ([] : List Int)) r = [] := by
 unfold ej
 rw [List.getD_eq_getElem?_getD, List.getElem?_replicate]
 split <;> rfl
structure InF (c : VFnT) (g : List (List Int)) : Prop where
 len : g.length = c.regs.toNat
 row : ∀ r, r < c.regs.toNat → Lst (ej g r) (Sy (intE c) r)
theorem inf_of {c : VFnT} {g : List (List Int)} {k : Nat} (hl : g.length = c.regs.toNat) (hk : c.regs.toNat ≤ k) (h : ∀ r, r < k → Lst (ej g r) (Sy (intE c) r)) : InF c g := ⟨hl, fun r hr => h r (by omega)⟩
theorem fin_row {c : VFnT} {rl : List (List U64)} {g : List (List Int)} {k n : Nat} (h : RwF c rl (intE c)) (hk : k < c.regs.toNat) (v : VF c) (hn : c.regs.toNat ≤ n) (hg : ∀ r, r < k → Lst (ej g r) (Sy (intE c) r)) (hu : Lst (ej g k) (upS rl k n)) : ∀ r, r < k + 1 → Lst (ej g r) (Sy (intE c) r) := fun r hr => by
 rcases Nat.lt_or_ge r k with A | A
 ·
  exact hg r A
 have : r = k := by omega
 subst this
 refine Lst.ext hu fun y => ?_
 unfold upS
 rw [h.bit r hk]
 refine ⟨fun h => h.1, fun hy => ⟨hy, ?_⟩⟩
 have hlt : ∀ a x, intE c a x → (a : Int) < c.regs ∧ (x : Int) < c.regs := fun a x ⟨b, i, A, E, I, J, _⟩ => ⟨((cb (v.ins b A i E)).2.1 _ I).2, jr v A J⟩
 rcases hy with hy | hy
 ·
  have := hlt _ _ hy; omega
 have := hlt _ _ hy; omega
set_option maxHeartbeats 4000000 in
theorem inter_c (ex : FuncId) {c0 : Option Addr} {c3 : Nat} (c : VFnT) {F : Fz} {H : Heap} {R : List Fp} (hs : HS (.of H []) F H [] R) (ou : in64 c.params) (ov : in64 c.regs) (dl : SR F (.slice c0 c.blocks.length c3) c.blocks) (hT : TB 37 tabC F) (hins : ∀ j, (c.blocks.getD j default).ins.length ≤ 1073741822) : C Tryd.prog 1 (KT 60 ex 37 tabC) 20 [(.agg ⟨[(iI c.params), (iI c.regs), (.slice c0 c.blocks.length c3)]⟩)] H fun v H' => ∃ (ag : Option Addr) (kg : Nat) (g : List (List Int)) (F' : Fz), Fz.le F F' ∧ HS (.of H []) F' H' [] R ∧ v = .slice ag g.length kg ∧ SR F' (.slice ag g.length kg) g ∧ (ef c = true → InF c g) ∧ (ef c = false → g = []) := by
 refine aM Tryd.func20 rfl rfl ?_
 refine am 1 rfl ?_
 refine aa ?_
 refine aK (cF hs rfl rfl) rfl rfl ?_
 rintro _ H2 _ ⟨b1, rfl, (lv : HS _ _ _ [[(b1, .cells [(iI c.params), (iI c.regs), (.slice c0 c.blocks.length c3)] none false)]] _), _⟩
 refine wa (.slice none 0 0) rfl rfl rfl ?_
 refine aj 3 rfl ?_
 refine aa ?_
 let kN : Value := (.agg ⟨[(iI c.params), (iI c.regs), (.slice c0 c.blocks.length c3)]⟩)
 refine wRo 1 0 [(0, .o kN)] 18 18 [] [(18, kN)] (vA (qn 24 0 3 (HS.hc lv (i := 0) rfl) rfl rfl rfl rfl) trivial) rfl fun _ => ?_
 refine aE (aB rfl rfl rfl) rfl rfl (m3.gV ex c (HS.call lv) (by first | (dsimp only; omega) | omega) (by first | (dsimp only; omega) | omega) dl hT (by exact fun j => Nat.le_trans (hins j) (by omega))) ?_
 rintro _ H4 ⟨r4, F4, kw, jb, rfl, rfl⟩
 replace jb : HS _ _ _ [_] _ := HS.back lv rfl jb
 replace hT := hT.mono kw
 replace dl := dl.mono kw
 refine wRo 1 2 [] 20 20 [] [(20, (.bool (!(ef c))))] trivial rfl fun _ => ?_
 refine aj 1 rfl ?_
 refine au 1 2 (v := (!(ef c))) rfl rfl rfl rfl (fun k0 => ?_) (fun k0 => ?_)
 ·
  have c6 := k0
  try simp only [BS] at c6
  have hv := c6
  refine wR 1 [] 2 2 [] [(2, (.slice none 0 0))] trivial rfl fun _ => ?_
  refine az ⟨.inr rfl, _, rfl, none, 0, ([] : List (List Int)), _, (kw), (HS.forget jb), rfl, (SR.nil : SR F4 (.slice none 0 0) ([] : List (List Int))), (by first | exact fun h => absurd (h.symm.trans hv) (by decide) | exact fun _ => inf_of l6 (by omega) ln), (by first | exact fun _ => rfl | exact fun h => absurd (hv.symm.trans h) (by decide))⟩
 have c6 := k0
 try simp only [BS] at c6
 have hv := c6
 have vF := vF_of hv
 have hnb := vF.nb
 have hrg := vF.regs
 have hwd := wd_le vF.regs
 have oy : Int.tdiv (c.regs + 63) 64 = (c.regs + 63) / 64 := Int.tdiv_eq_ediv_of_nonneg (by omega)
 have oz : (List.replicate c.regs.toNat (default : Hd)).length = c.regs.toNat := List.length_replicate
 refine aa ?_
 refine wRo 2 0 [(1, .o (iI c.regs))] 21 22 [] [(22, (iI c.regs))] (vA (ql 3 1 (HS.hc jb (i := 0) rfl) rfl rfl) trivial) rfl fun _ => ?_
 refine aK (cV (default : Hd) jb rfl rfl rfl rfl rfl rfl rfl rfl rfl rfl (by first | (dsimp only; omega) | omega) (by first | (dsimp only; omega) | omega)) rfl rfl ?_
 rintro _ oT p9 ⟨a9, k9, rfl, nq, (mJ : HS _ _ _ [_, p9] _), _⟩
 have ke := HS.snoc mJ
 have ke : HS _ _ _ [_, _, []] _ := ke
 have la : SF F4 (List.replicate c.regs.toNat (default : Hd)) (List.replicate c.regs.toNat ([] : List U64)) [] := SF.rep _
 have oi := FAM.len la
 refine aK (bx ke rfl) rfl rfl ?_
 rintro _ oU _ ⟨J, rfl, (mK : HS _ _ _ [_, _, _, [(J, .cells [(.slice none 0 0)] none false)]] _), _⟩
 refine aT (aP (q := 3) mK rfl rfl rfl rfl rfl rfl rfl rfl rfl) rfl ?_
 rintro _ oV _ ⟨(lu : HS _ _ _ [_, _, _, [(J, .cells [(.slice a9 (List.replicate c.regs.toNat (default : Hd)).length k9)] none false)]] _), _⟩
 refine aj 3 rfl ?_
 refine wR 2 [(0, .o (.slice a9 (List.replicate c.regs.toNat (default : Hd)).length k9))] 24 26 [] [(25, (iI ((List.replicate c.regs.toNat (default : Hd)).length : Int))), (26, (iI 0))] (vA (ql 85 0 (HS.hc lu (i := 3) rfl) rfl rfl) trivial) rfl fun _ => ?_
 let g9 : Fp := [(b1, .cells [(iI c.params), (iI c.regs), (.slice c0 c.blocks.length c3)] none false)]
 refine ak (fun (mm : Nat) f H' => ∃ (rh : List Hd) (rl : List (List U64)) (k : Nat) (ax : Fp) (N : Option Addr) (O : Nat) (dt : Fp) (F' : Fz), Fz.le F4 F' ∧ HS (Base.of H []) F' H' [g9, ax, dt, [(J, .cells [(.slice N rh.length O)] none false)]] R ∧ OS F' (.slice N rh.length O) rh ax ∧ SF F' rh rl dt ∧ aH f [(1, (.pointer (some ⟨b1, 0, none⟩))), (2, (.slice none 0 0)), (3, (.pointer (some ⟨J, 0, none⟩))), (25, (iI ((List.replicate c.regs.toNat (default : Hd)).length : Int))), (26, (iI (k : Int)))] ∧ mm = c.regs.toNat - k ∧ (rl.length = c.regs.toNat) ∧ (k ≤ c.regs.toNat) ∧ (∀ j, j < k → rl.getD j default = List.replicate (wds c) ⟨0⟩)) _ ⟨List.replicate c.regs.toNat (default : Hd), List.replicate c.regs.toNat ([] : List U64), 0, p9, a9, k9, [], _, fR, lu, nq, la, (agC rfl (agC rfl (agC rfl (agC rfl (agC rfl agN))))), rfl, (by simp), (by first | assumption | omega | (simp at *; omega)), (by intro j hj; omega)⟩ ?_
 rintro oI pb oW ⟨rh, rl, k, ax, N, O, dt, ni, h0, fi, b6, es, lb, rfl, l5, pm, l8⟩ mS
 refine aq _ lb (fun _ => ?_)
 clear lb
 replace hT := hT.mono h0
 replace dl := dl.mono h0
 have m7 := FAM.len es
 refine am 1 rfl ?_
 refine wR 2 [] 27 27 [] [(27, (.bool (decide ((k : Int) < ((List.replicate c.regs.toNat (default : Hd)).length : Int)))))] trivial rfl fun _ => ?_
 refine au 4 5 (v := (decide ((k : Int) < ((List.replicate c.regs.toNat (default : Hd)).length : Int)))) rfl rfl rfl rfl (fun j5 => ?_) (fun j5 => ?_)
 ·
  have kU := j5
  try simp only [BS] at kU
  refine wR 1 [] 28 28 [4] [(4, (iI (k : Int)))] trivial rfl fun _ => ?_
  refine bL rfl ?_
  refine aO (v := (.slice N rh.length O)) (id := .l J) (b8 (i := 0) rfl rfl (HS.hc fi.log0 (i := 3) rfl) rfl rfl) rfl rfl (ey rfl) trivial ?_
  refine fm (iI (k : Int)) rfl rfl rfl ?_
  refine aO (v := (.pointer (some ⟨b1, 1, none⟩))) (id := .v) (fF rfl rfl) rfl rfl (dD rfl) (du _) ?_
  refine aO (v := (iI c.regs)) (id := .l b1) (b8 (i := 1) rfl rfl (HS.hc fi.log0 (i := 0) rfl) rfl rfl) rfl rfl (ey rfl) (⟨.inl rfl, ⟨.inr trivial, ⟨.inr trivial, trivial⟩⟩⟩) ?_
  refine aO (v := (iI (c.regs + 63))) (id := .v) (ap_add rfl rfl (w_i64 (n := c.regs + 63) (by first | (dsimp only; omega) | omega))) rfl rfl (dD rfl) (du _) ?_
  have oN : in64 (c.regs + 63) → in64 (Int.tdiv (c.regs + 63) 64) := fun h => vq h (by decide)
  refine aO (v := (iI (Int.tdiv (c.regs + 63) 64))) (id := .v) (ap_div rfl rfl (by decide) (w_tdiv (by first | (dsimp only; omega) | omega) (by decide))) rfl rfl (dD rfl) (du _) ?_
  refine dC (id := .x []) (cV (⟨0⟩ : U64) fi.log0 rfl rfl rfl rfl rfl rfl rfl rfl rfl ⟨rfl, by decide⟩ (by first | (dsimp only; omega) | omega) (by first | (dsimp only; omega) | omega)) rfl rfl (by rintro _ _ l9 ⟨kk, kJ, rfl, lp, _, hwr⟩; exact d3 rfl rfl (Wr.did hwr)) (⟨.inl rfl, ⟨.inl rfl, ⟨.inl rfl, ⟨.inl rfl, ⟨.inr trivial, ⟨.inr List.not_mem_nil, trivial⟩⟩⟩⟩⟩⟩) ?_
  rintro _ nm l9 ⟨kk, kJ, rfl, lp, f0, _⟩ mX lT
  replace f0 := HS.lg f0 fi lT
  generalize ({ nm with log := mX } : Heap) = n5 at f0 ⊢
  have f0 : HS _ _ _ [_, ax, dt, [(J, .cells [(.slice N rh.length O)] none false)], l9] _ := f0
  refine aO (v := (.pointer (some ⟨sB (.slice N rh.length O), sO (.slice N rh.length O) + k * Rp.sz Hd, none⟩))) (id := .v) (cz (α := Hd) (j := (k : Int)) rfl rfl rfl rfl (OS.sv b6 f0.log0 (i := 1) rfl) (by first | (dsimp only; omega) | omega) (by first | (dsimp only; omega) | omega)) rfl rfl (dD rfl) (du _) ?_
  obtain ⟨my, k4, kf, kc, mC⟩ := SF.open es f0 (q := 2) (i := k) rfl (by first | (dsimp only; omega) | omega)
  have kf : HS _ _ _ [_, _, my, _, _, k4] _ := kf
  have kc : OS ni (.slice (rh.getD k default).a (rh.getD k default).n (rh.getD k default).k) (rl.getD k default) k4 := kc
  have oF := OS.nlen kc
  obtain ⟨k7, ik, lc⟩ := SF.shutN (⟨kk, (List.replicate (Int.tdiv (c.regs + 63) 64).toNat (⟨0⟩ : U64)).length, kJ⟩ : Hd) mC fR kf (q := 2) (m := 4) (by decide) rfl rfl lp
  have ik : HS _ _ _ [_, _, k7, _, [], _] _ := ik
  have oj := FAM.len lc
  refine wf_rk (id := .x (ax.map Prod.fst)) (ei (α := Hd) (j := k) (off := 0) (q := 1) (⟨kk, (List.replicate (Int.tdiv (c.regs + 63) 64).toNat (⟨0⟩ : U64)).length, kJ⟩ : Hd) b6 ik.log0 rfl rfl rfl rfl rfl rfl rfl rfl (aY (x := default) (by first | (dsimp only; omega) | omega)) rfl (by rintro cs rfl; exact ⟨Nat.le_of_ble_eq_true rfl, rfl⟩)) rfl (by rintro _ _ lM ⟨kd, _, hwr⟩; exact d3 rfl rfl (Wr.did hwr)) (⟨.inl rfl, ⟨.inl rfl, ⟨.inl rfl, ⟨.inl rfl, ⟨.inl rfl, ⟨.inl rfl, ⟨.inl rfl, ⟨.inl rfl, trivial⟩⟩⟩⟩⟩⟩⟩⟩) ?_
  rintro _ nn lM ⟨kd, f8, _⟩ mY lU
  replace f8 := HS.lg f8 ik lU
  generalize ({ nn with log := mY } : Heap) = n6 at f8 ⊢
  have f8 : HS _ _ _ [_, lM, _, _, _, _] _ := f8
  have nM := OS.len' kd
  refine d8 ?_
  refine am 2 rfl ?_
  refine wR 1 [] 26 26 [37] [(26, (iI ((k : Int) + 1)))] (vA (vi (n := (k : Int) + 1) (by first | (dsimp only; omega) | omega)) trivial) rfl fun _ => ?_
  refine mS _ _ _ ?_ ⟨rh.set k (⟨kk, (List.replicate (Int.tdiv (c.regs + 63) 64).toNat (⟨0⟩ : U64)).length, kJ⟩ : Hd), rl.set k (List.replicate (Int.tdiv (c.regs + 63) 64).toNat (⟨0⟩ : U64)), k + 1, lM, N, O, k7, _, (h0), (by simpa only [List.length_set] using (HS.sub f8 (List.sublist_append_left _ _))), (OS.norm kd), lc, (agC rfl (agC rfl (agC rfl (agC rfl (agC rfl agN))))), rfl, (by rw [List.length_set]; exact l5), (by first | assumption | omega | (simp at *; omega)), (by exact zset l8 (by omega))⟩
  omega
 have kU := j5
 try simp only [BS] at kU
 refine wR 2 [] 38 38 [5] [(5, (.func (.func 50) #[] #[(.pointer (some ⟨J, 0, none⟩))]))] trivial rfl fun _ => ?_
 have mH := rw_zero (c := c) l5 (by omega) l8
 refine aa ?_
 refine wRo 1 0 [(0, .o kN)] 39 39 [] [(39, kN)] (vA (qn 24 0 3 (HS.hc fi (i := 0) rfl) rfl rfl rfl rfl) trivial) rfl fun _ => ?_
 refine aE (aB rfl rfl rfl) rfl rfl (na.points_c ex c (HS.call fi) (by first | (dsimp only; omega) | omega) (by first | (dsimp only; omega) | omega) dl hT (by first | assumption | omega) (by first | assumption | omega)) ?_
 rintro _ oX ⟨f1, f2, A, g6, nj, hw, il, rfl, b4, pk⟩
 replace il : HS _ _ _ [_, ax, dt, [(J, .cells [(.slice N rh.length O)] none false)], g6] _ := HS.back fi rfl il
 replace b6 := b6.mono hw
 replace es := SF.mono hw es
 refine wa (.slice f1 A.length f2) rfl rfl rfl ?_
 refine aj 3 rfl ?_
 have ps := (by assumption : PsF c _)
 have hpsl := ps.len
 refine wR 2 [(1, .o (.slice c0 c.blocks.length c3))] 41 44 [] [(42, (.slice c0 c.blocks.length c3)), (43, (iI (c.blocks.length : Int))), (44, (iI 0))] (vA (ql 22 2 (HS.hc il (i := 0) rfl) rfl rfl) trivial) rfl fun _ => ?_
 refine ak (fun (mm : Nat) f H' => ∃ (ch : List Hd) (jw : List (List U64)) (k : Nat) (ay : Fp) (an : Option Addr) (ar : Nat) (c5 : Fp) (F' : Fz), Fz.le nj F' ∧ HS (Base.of H []) F' H' [g9, ay, c5, [(J, .cells [(.slice an ch.length ar)] none false)], g6] R ∧ OS F' (.slice an ch.length ar) ch ay ∧ SF F' ch jw c5 ∧ aH f [(1, (.pointer (some ⟨b1, 0, none⟩))), (2, (.slice none 0 0)), (3, (.pointer (some ⟨J, 0, none⟩))), (5, (.func (.func 50) #[] #[(.pointer (some ⟨J, 0, none⟩))])), (6, (.slice f1 A.length f2)), (42, (.slice c0 c.blocks.length c3)), (43, (iI (c.blocks.length : Int))), (44, (iI (k : Int)))] ∧ mm = c.blocks.length - k ∧ (RwF c jw (E0 c k)) ∧ (k ≤ c.blocks.length)) _ ⟨rh, rl, 0, ax, N, O, dt, _, fR, il, b6, es, (agC rfl (agC rfl (agC rfl (agC rfl (agC rfl (agC rfl (agC rfl (agC rfl agN)))))))), rfl, (by exact mH), (by first | assumption | omega | (simp at *; omega))⟩ ?_
 rintro oJ pc oY ⟨ch, jw, k, ay, an, ar, c5, kQ, hz, hC, g4, hD, ld, rfl, lN, hk⟩ mT
 refine aq _ ld (fun _ => ?_)
 clear ld
 replace hT := (hT.mono hw).mono hz
 replace dl := (dl.mono hw).mono hz
 replace b4 := b4.mono hz
 have m8 := FAM.len hD
 have oA := lN.len
 refine am 1 rfl ?_
 refine wR 2 [] 45 45 [] [(45, (.bool (decide ((k : Int) < (c.blocks.length : Int)))))] trivial rfl fun _ => ?_
 refine au 4 5 (v := (decide ((k : Int) < (c.blocks.length : Int)))) rfl rfl rfl rfl (fun j6 => ?_) (fun j6 => ?_)
 ·
  have kV := j6
  try simp only [BS] at kV
  have hbn : k < c.blocks.length := by omega
  have hbl := hins k
  have px : PtX c k (A.getD k default) := ps.at_ k hbn
  have hpxl : (A.getD k default).length = (c.blocks.getD k default).ins.length + 2 := px.len
  have nQ : (A.getD k []).length = (c.blocks.getD k default).ins.length + 2 := px.len
  refine aa ?_
  obtain ⟨a2, lz⟩ := Sv.view (SR.sv dl hC)
  obtain ⟨nD, nE, nF, nG, ht⟩ := BlkT.fx (lz k)
  let j1 : Value := (.agg ⟨[(.slice (cA (a2 k) 0) (c.blocks.getD k default).ins.length (cK (a2 k) 0)), (iI (c.blocks.getD k default).fin), (iI (c.blocks.getD k default).reg), (iI (c.blocks.getD k default).tgt), (iI (c.blocks.getD k default).els)]⟩)
  refine wRo 3 0 [(2, .o j1)] 46 48 [] [(46, (iI (k : Int))), (48, j1)] (vA (Sv.ix (j := (k : Int)) (SR.sv dl hC) (by first | (dsimp only; omega) | omega) (by first | (dsimp only; omega) | omega)) (vA (qn 48 0 5 (BlkT.vw (lz k) (by first | (dsimp only; omega) | omega)) rfl rfl rfl rfl) trivial)) rfl fun _ => ?_
  refine aK (bx hC rfl) rfl rfl ?_
  rintro _ oZ _ ⟨hH, rfl, (mL : HS _ _ _ [_, ay, c5, [(J, .cells [(.slice an ch.length ar)] none false)], _, [(hH, .cells [(.slice none 0 0), (iI 0), (iI 0), (iI 0), (iI 0)] none false)]] _), _⟩
  refine wa (iI (k : Int)) rfl rfl rfl ?_
  refine aT (aP (q := 5) mL rfl rfl rfl rfl rfl rfl rfl rfl rfl) rfl ?_
  rintro _ o0 _ ⟨(lw : HS _ _ _ [_, _, _, _, _, [(hH, .cells [(.slice (cA (a2 k) 0) (c.blocks.getD k default).ins.length (cK (a2 k) 0)), (iI (c.blocks.getD k default).fin), (iI (c.blocks.getD k default).reg), (iI (c.blocks.getD k default).tgt), (iI (c.blocks.getD k default).els)] none false)]] _), _⟩
  refine aj 2 rfl ?_
  refine wR 2 [(1, .o (.slice (cA (a2 k) 0) (c.blocks.getD k default).ins.length (cK (a2 k) 0)))] 49 52 [] [(50, (.slice (cA (a2 k) 0) (c.blocks.getD k default).ins.length (cK (a2 k) 0))), (51, (iI ((c.blocks.getD k default).ins.length : Int))), (52, (iI 0))] (vA (ql 46 0 (HS.hc lw (i := 5) rfl) rfl rfl) trivial) rfl fun _ => ?_
  let kO : Fp := [(hH, .cells [(.slice (cA (a2 k) 0) (c.blocks.getD k default).ins.length (cK (a2 k) 0)), (iI (c.blocks.getD k default).fin), (iI (c.blocks.getD k default).reg), (iI (c.blocks.getD k default).tgt), (iI (c.blocks.getD k default).els)] none false)]
  refine ak (fun (mm : Nat) f H' => ∃ (g7 : List Hd) (jZ : List (List U64)) (n : Nat) (a7 : Fp) (a5 : Option Addr) (a6 : Nat) (dv : Fp) (F' : Fz), Fz.le kQ F' ∧ HS (Base.of H []) F' H' [g9, a7, dv, [(J, .cells [(.slice a5 g7.length a6)] none false)], g6, kO] R ∧ OS F' (.slice a5 g7.length a6) g7 a7 ∧ SF F' g7 jZ dv ∧ aH f [(1, (.pointer (some ⟨b1, 0, none⟩))), (2, (.slice none 0 0)), (3, (.pointer (some ⟨J, 0, none⟩))), (5, (.func (.func 50) #[] #[(.pointer (some ⟨J, 0, none⟩))])), (6, (.slice f1 A.length f2)), (7, (iI (k : Int))), (8, (.pointer (some ⟨hH, 0, none⟩))), (42, (.slice c0 c.blocks.length c3)), (43, (iI (c.blocks.length : Int))), (44, (iI (k : Int))), (45, (.bool (decide ((k : Int) < (c.blocks.length : Int))))), (46, (iI (k : Int))), (48, j1), (50, (.slice (cA (a2 k) 0) (c.blocks.getD k default).ins.length (cK (a2 k) 0))), (51, (iI ((c.blocks.getD k default).ins.length : Int))), (52, (iI (n : Int)))] ∧ mm = (c.blocks.getD k default).ins.length - n ∧ (RwF c jZ (E1 c k n)) ∧ (n ≤ (c.blocks.getD k default).ins.length)) _ ⟨ch, jw, 0, ay, an, ar, c5, _, fR, lw, g4, hD, (agC rfl (agC rfl (agC rfl (agC rfl (agC rfl (agC rfl (agC rfl (agC rfl (agC rfl (agC rfl (agC rfl (agC rfl (agC rfl (agC rfl (agC rfl (agC rfl agN)))))))))))))))), rfl, (by exact rw_e1 lN), (by first | assumption | omega | (simp at *; omega))⟩ ?_
  rintro oK pd o1 ⟨g7, jZ, n, a7, a5, a6, dv, oQ, hA, it, c9, et, lf, rfl, me, hn⟩ mU
  refine aq _ lf (fun _ => ?_)
  clear lf
  replace hT := hT.mono hA
  replace b4 := b4.mono hA
  replace ht := ht.mono hA
  have m9 := FAM.len et
  refine am 1 rfl ?_
  refine wR 2 [] 53 53 [] [(53, (.bool (decide ((n : Int) < ((c.blocks.getD k default).ins.length : Int)))))] trivial rfl fun _ => ?_
  refine au 4 5 (v := (decide ((n : Int) < ((c.blocks.getD k default).ins.length : Int)))) rfl rfl rfl rfl (fun j7 => ?_) (fun j7 => ?_)
  ·
   have kW := j7
   try simp only [BS] at kW
   have hin : n < (c.blocks.getD k default).ins.length := by omega
   have hvl : (∀ x ∈ aD ((c.blocks.getD k default).ins.getD n default), 0 ≤ x ∧ x < c.regs) ∧ (∀ x ∈ ab ((c.blocks.getD k default).ins.getD n default), 0 ≤ x ∧ x < c.regs) ∧ ((c.blocks.getD k default).ins.getD n default).args.length ≤ 6 := cb (vF.ins k hbn n hin)
   have oD := hvl.2.2
   have pl : Lst ((A.getD k default).getD (n + 1) default) (ptS c k (n + 1)) := px.pt (n + 1) hin
   have hpl := Lst.len pl hrg.1 (fun r h => jr vF hbn h)
   have hpv : ((A.getD k default).getD (n + 1) []).length = ((A.getD k default).getD (n + 1) default).length := rfl
   have ox : ((A.getD k []).getD (n + 1) []).length = ((A.getD k default).getD (n + 1) default).length := rfl
   have hwl := dK (v := ((c.blocks.getD k default).ins.getD n default))
   refine aa ?_
   obtain ⟨f5, lA⟩ := Sv.view (SR.sv ht it)
   obtain ⟨nH, nI, nJ, nK, nL, l4⟩ := VInT.fx (lA n)
   let ha : Value := (.agg ⟨[(iI ((c.blocks.getD k default).ins.getD n default).i.op), (iI ((c.blocks.getD k default).ins.getD n default).i.a), (iI ((c.blocks.getD k default).ins.getD n default).i.b), (iI ((c.blocks.getD k default).ins.getD n default).i.c), (iI ((c.blocks.getD k default).ins.getD n default).i.n), (.slice (cA (f5 n) 5) ((c.blocks.getD k default).ins.getD n default).args.length (cK (f5 n) 5))]⟩)
   refine wRo 3 0 [(2, .o ha)] 54 56 [] [(54, (iI (n : Int))), (56, ha)] (vA (Sv.ix (j := (n : Int)) (SR.sv ht it) (by first | (dsimp only; omega) | omega) (by first | (dsimp only; omega) | omega)) (vA (qn 52 0 6 (VInT.vw (lA n) (by first | (dsimp only; omega) | omega)) rfl rfl rfl rfl) trivial)) rfl fun _ => ?_
   refine aK (bx it rfl) rfl rfl ?_
   rintro _ o2 _ ⟨i1, rfl, (mM : HS _ _ _ [_, a7, dv, [(J, .cells [(.slice a5 g7.length a6)] none false)], _, _, [(i1, .cells [(iI 0), (iI 0), (iI 0), (iI 0), (iI 0), (.slice none 0 0)] none false)]] _), _⟩
   refine wa (iI (n : Int)) rfl rfl rfl ?_
   refine aT (aP (q := 6) mM rfl rfl rfl rfl rfl rfl rfl rfl rfl) rfl ?_
   rintro _ o3 _ ⟨(kh : HS _ _ _ [_, _, _, _, _, _, [(i1, .cells [(iI ((c.blocks.getD k default).ins.getD n default).i.op), (iI ((c.blocks.getD k default).ins.getD n default).i.a), (iI ((c.blocks.getD k default).ins.getD n default).i.b), (iI ((c.blocks.getD k default).ins.getD n default).i.c), (iI ((c.blocks.getD k default).ins.getD n default).i.n), (.slice (cA (f5 n) 5) ((c.blocks.getD k default).ins.getD n default).args.length (cK (f5 n) 5))] none false)]] _), _⟩
   refine aj 2 rfl ?_
   refine aa ?_
   refine wRo 1 0 [(0, .o ha)] 57 57 [] [(57, ha)] (vA (qn 52 0 6 (HS.hc kh (i := 6) rfl) rfl rfl rfl rfl) trivial) rfl fun _ => ?_
   refine aE (aB rfl rfl rfl) rfl rfl (ma.fk ex ((c.blocks.getD k default).ins.getD n default) (HS.call kh) (by first | (dsimp only; omega) | omega) (by first | (dsimp only; omega) | omega) (by first | (dsimp only; omega) | omega) (by first | (dsimp only; omega) | omega) (by first | (dsimp only; omega) | omega) l4 hT) ?_
   rintro _ o4 ⟨kT, lJ, po, kK, nk, h1, ki, rfl, hg, rfl⟩
   replace ki : HS _ _ _ [_, _, _, _, _, _, _, kK] _ := HS.back kh rfl ki
   replace c9 := c9.mono h1
   replace et := SF.mono h1 et
   refine wRo 2 2 [] 59 60 [] [(59, (iI ((ab ((c.blocks.getD k default).ins.getD n default)).length : Int))), (60, (iI 0))] trivial rfl fun _ => ?_
   refine aj 2 rfl ?_
   let lO : Fp := [(i1, .cells [(iI ((c.blocks.getD k default).ins.getD n default).i.op), (iI ((c.blocks.getD k default).ins.getD n default).i.a), (iI ((c.blocks.getD k default).ins.getD n default).i.b), (iI ((c.blocks.getD k default).ins.getD n default).i.c), (iI ((c.blocks.getD k default).ins.getD n default).i.n), (.slice (cA (f5 n) 5) ((c.blocks.getD k default).ins.getD n default).args.length (cK (f5 n) 5))] none false)]
   refine ak (fun (mm : Nat) f H' => ∃ (hF : List Hd) (j0 : List (List U64)) (q : Nat) (b9 : Fp) (b5 : Option Addr) (b7 : Nat) (ez : Fp) (F' : Fz), Fz.le nk F' ∧ HS (Base.of H []) F' H' [g9, b9, ez, [(J, .cells [(.slice b5 hF.length b7)] none false)], g6, kO, lO, kK] R ∧ OS F' (.slice b5 hF.length b7) hF b9 ∧ SF F' hF j0 ez ∧ aH f [(1, (.pointer (some ⟨b1, 0, none⟩))), (2, (.slice none 0 0)), (3, (.pointer (some ⟨J, 0, none⟩))), (5, (.func (.func 50) #[] #[(.pointer (some ⟨J, 0, none⟩))])), (6, (.slice f1 A.length f2)), (7, (iI (k : Int))), (8, (.pointer (some ⟨hH, 0, none⟩))), (9, (iI (n : Int))), (10, (.pointer (some ⟨i1, 0, none⟩))), (42, (.slice c0 c.blocks.length c3)), (43, (iI (c.blocks.length : Int))), (44, (iI (k : Int))), (45, (.bool (decide ((k : Int) < (c.blocks.length : Int))))), (46, (iI (k : Int))), (48, j1), (50, (.slice (cA (a2 k) 0) (c.blocks.getD k default).ins.length (cK (a2 k) 0))), (51, (iI ((c.blocks.getD k default).ins.length : Int))), (52, (iI (n : Int))), (53, (.bool (decide ((n : Int) < ((c.blocks.getD k default).ins.length : Int))))), (54, (iI (n : Int))), (56, ha), (57, ha), (58, (.slice kT (ab ((c.blocks.getD k default).ins.getD n default)).length lJ)), (59, (iI ((ab ((c.blocks.getD k default).ins.getD n default)).length : Int))), (60, (iI (q : Int)))] ∧ mm = (ab ((c.blocks.getD k default).ins.getD n default)).length - q ∧ (RwF c j0 (E2 c k n q)) ∧ (q ≤ (ab ((c.blocks.getD k default).ins.getD n default)).length)) _ ⟨g7, jZ, 0, a7, a5, a6, dv, _, fR, ki, c9, et, (agC rfl (agC rfl (agC rfl (agC rfl (agC rfl (agC rfl (agC rfl (agC rfl (agC rfl (agC rfl (agC rfl (agC rfl (agC rfl (agC rfl (agC rfl (agC rfl (agC rfl (agC rfl (agC rfl (agC rfl (agC rfl (agC rfl (agC rfl (agC rfl (agC rfl agN))))))))))))))))))))))))), rfl, (by exact rw_e2 me), (by first | assumption | omega | (simp at *; omega))⟩ ?_
   rintro oL pe o5 ⟨hF, j0, q, b9, b5, b7, ez, nl, h3, em, g5, hE, lh, rfl, mk, hq⟩ mV
   refine aq _ lh (fun _ => ?_)
   clear lh
   replace b4 := (b4.mono h1).mono h3
   replace hg := hg.mono h3
   have ne := FAM.len hE
   refine am 1 rfl ?_
   refine wR 2 [] 61 61 [] [(61, (.bool (decide ((q : Int) < ((ab ((c.blocks.getD k default).ins.getD n default)).length : Int)))))] trivial rfl fun _ => ?_
   refine au 4 5 (v := (decide ((q : Int) < ((ab ((c.blocks.getD k default).ins.getD n default)).length : Int)))) rfl rfl rfl rfl (fun j8 => ?_) (fun j8 => ?_)
   ·
    have kX := j8
    try simp only [BS] at kX
    have hwq := fu hvl.2.1 (k := q) (by omega)
    obtain ⟨n8, lB⟩ := Sv.view (OS.sv hg em (i := 7) rfl)
    have pg := fI (lB q)
    refine wR 2 [(1, .o (iI ((ab ((c.blocks.getD k default).ins.getD n default)).getD q 0)))] 62 63 [12] [(12, (iI ((ab ((c.blocks.getD k default).ins.getD n default)).getD q 0)))] (vA (Sv.ix (j := (q : Int)) (OS.sv hg em (i := 7) rfl) (by first | (dsimp only; omega) | omega) (by first | (dsimp only; omega) | omega)) (vA (ql 3 0 (vI (lB q) (by first | (dsimp only; omega) | omega)) rfl rfl) trivial)) rfl fun _ => ?_
    obtain ⟨k3, lC⟩ := Sv.view (OS.sv b4 em (i := 4) rfl)
    have mp := fL (lC k)
    obtain ⟨f6, lD⟩ := Sv.view (SR.sv mp em)
    have kM := fL (lD (n + 1))
    refine wR 2 [(3, .o (.slice (cA (k3 k) 0) (A.getD k default).length (cK (k3 k) 0))), (7, .o (.slice (cA (f6 (n + 1)) 0) ((A.getD k default).getD (n + 1) default).length (cK (f6 (n + 1)) 0)))] 64 73 [] [(71, (.slice (cA (f6 (n + 1)) 0) ((A.getD k default).getD (n + 1) default).length (cK (f6 (n + 1)) 0))), (72, (iI (((A.getD k default).getD (n + 1) default).length : Int))), (73, (iI 0))] (vA (Sv.ix (j := (k : Int)) (OS.sv b4 em (i := 4) rfl) (by first | (dsimp only; omega) | omega) (by first | (dsimp only; omega) | omega)) (vA (ql 32 0 (vL (lC k) (by first | (dsimp only; omega) | omega)) rfl rfl) (vA (vi (n := (n : Int) + 1) (by first | (dsimp only; omega) | omega)) (vA (Sv.ix (j := (n : Int) + 1) (SR.sv mp em) (by first | (dsimp only; omega) | omega) (by first | (dsimp only; omega) | omega)) (vA (ql 25 0 (vL (lD (n + 1)) (by first | (dsimp only; omega) | omega)) rfl rfl) trivial))))) rfl fun _ => ?_
    refine ak (fun (mm : Nat) f H' => ∃ (I : List Hd) (E : List (List U64)) (p : Nat) (a0 : Fp) (Z : Option Addr) (al : Nat) (e0 : Fp) (F' : Fz), Fz.le nl F' ∧ HS (Base.of H []) F' H' [g9, a0, e0, [(J, .cells [(.slice Z I.length al)] none false)], g6, kO, lO, kK] R ∧ OS F' (.slice Z I.length al) I a0 ∧ SF F' I E e0 ∧ aH f [(1, (.pointer (some ⟨b1, 0, none⟩))), (2, (.slice none 0 0)), (3, (.pointer (some ⟨J, 0, none⟩))), (5, (.func (.func 50) #[] #[(.pointer (some ⟨J, 0, none⟩))])), (6, (.slice f1 A.length f2)), (7, (iI (k : Int))), (8, (.pointer (some ⟨hH, 0, none⟩))), (9, (iI (n : Int))), (10, (.pointer (some ⟨i1, 0, none⟩))), (12, (iI ((ab ((c.blocks.getD k default).ins.getD n default)).getD q 0))), (42, (.slice c0 c.blocks.length c3)), (43, (iI (c.blocks.length : Int))), (44, (iI (k : Int))), (45, (.bool (decide ((k : Int) < (c.blocks.length : Int))))), (46, (iI (k : Int))), (48, j1), (50, (.slice (cA (a2 k) 0) (c.blocks.getD k default).ins.length (cK (a2 k) 0))), (51, (iI ((c.blocks.getD k default).ins.length : Int))), (52, (iI (n : Int))), (53, (.bool (decide ((n : Int) < ((c.blocks.getD k default).ins.length : Int))))), (54, (iI (n : Int))), (56, ha), (57, ha), (58, (.slice kT (ab ((c.blocks.getD k default).ins.getD n default)).length lJ)), (59, (iI ((ab ((c.blocks.getD k default).ins.getD n default)).length : Int))), (60, (iI (q : Int))), (61, (.bool (decide ((q : Int) < ((ab ((c.blocks.getD k default).ins.getD n default)).length : Int))))), (71, (.slice (cA (f6 (n + 1)) 0) ((A.getD k default).getD (n + 1) default).length (cK (f6 (n + 1)) 0))), (72, (iI (((A.getD k default).getD (n + 1) default).length : Int))), (73, (iI (p : Int)))] ∧ mm = (((A.getD k default).getD (n + 1) default)).length - p ∧ (RwF c E (E3 c k n q ((A.getD k default).getD (n + 1) default) p)) ∧ (p ≤ (((A.getD k default).getD (n + 1) default)).length)) _ ⟨hF, j0, 0, b9, b5, b7, ez, _, fR, em, g5, hE, (agC rfl (agC rfl (agC rfl (agC rfl (agC rfl (agC rfl (agC rfl (agC rfl (agC rfl (agC rfl (agC rfl (agC rfl (agC rfl (agC rfl (agC rfl (agC rfl (agC rfl (agC rfl (agC rfl (agC rfl (agC rfl (agC rfl (agC rfl (agC rfl (agC rfl (agC rfl (agC rfl (agC rfl (agC rfl (agC rfl agN)))))))))))))))))))))))))))))), rfl, (by exact rw_e3 mk), (by first | assumption | omega | (simp at *; omega))⟩ ?_
    rintro oM pf o6 ⟨I, E, p, a0, Z, al, e0, kR, h4, dn, aw, f3, lj, rfl, g8, hp⟩ lH
    refine aq _ lj (fun _ => ?_)
    clear lj
    replace kM := kM.mono h4
    have ng := FAM.len f3
    refine am 1 rfl ?_
    refine wR 2 [] 74 74 [] [(74, (.bool (decide ((p : Int) < (((A.getD k default).getD (n + 1) default).length : Int)))))] trivial rfl fun _ => ?_
    refine au 4 5 (v := (decide ((p : Int) < (((A.getD k default).getD (n + 1) default).length : Int)))) rfl rfl rfl rfl (fun j9 => ?_) (fun j9 => ?_)
    ·
     have kZ := j9
     try simp only [BS] at kZ
     have hxp : 0 ≤ (((A.getD k default).getD (n + 1) default)).getD p 0 ∧ (((A.getD k default).getD (n + 1) default)).getD p 0 < c.regs := by (have hm := (pl.mem _).1 (mem_at (l := ((A.getD k default).getD (n + 1) default)) (q := p) (by omega)); have hh := jr vF hbn hm.2; omega)
     obtain ⟨n9, lE⟩ := Sv.view (SR.sv kM dn)
     have ph := fI (lE p)
     refine wR 2 [(1, .o (iI (((A.getD k default).getD (n + 1) default).getD p 0)))] 75 76 [14] [(14, (iI (((A.getD k default).getD (n + 1) default).getD p 0)))] (vA (Sv.ix (j := (p : Int)) (SR.sv kM dn) (by first | (dsimp only; omega) | omega) (by first | (dsimp only; omega) | omega)) (vA (ql 3 0 (vI (lE p) (by first | (dsimp only; omega) | omega)) rfl rfl) trivial)) rfl fun _ => ?_
     refine wR 1 [(6, .o (iI ((c.blocks.getD k default).ins.getD n default).i.op)), (12, .o (iI ((c.blocks.getD k default).ins.getD n default).i.b))] 77 93 [] [(93, (.bool (((((A.getD k default).getD (n + 1) default).getD p 0) != ((ab ((c.blocks.getD k default).ins.getD n default)).getD q 0)) && (!((((c.blocks.getD k default).ins.getD n default).i.op == 10) && ((((A.getD k default).getD (n + 1) default).getD p 0) == ((c.blocks.getD k default).ins.getD n default).i.b))))))] (vA (fun (g1 : ((((A.getD k default).getD (n + 1) default).getD p 0) != ((ab ((c.blocks.getD k default).ins.getD n default)).getD q 0)) = true) => (ql 3 0 (HS.hc dn (i := 6) rfl) rfl rfl)) (vA (fun (g1 : (((c.blocks.getD k default).ins.getD n default).i.op == 10) = true) (g2 : ((((A.getD k default).getD (n + 1) default).getD p 0) != ((ab ((c.blocks.getD k default).ins.getD n default)).getD q 0)) = true) => (ql 3 2 (HS.hc dn (i := 6) rfl) rfl rfl)) trivial)) rfl fun _ => ?_
     refine au 0 2 (v := (((((A.getD k default).getD (n + 1) default).getD p 0) != ((ab ((c.blocks.getD k default).ins.getD n default)).getD q 0)) && (!((((c.blocks.getD k default).ins.getD n default).i.op == 10) && ((((A.getD k default).getD (n + 1) default).getD p 0) == ((c.blocks.getD k default).ins.getD n default).i.b))))) rfl rfl rfl rfl (fun ka => ?_) (fun ka => ?_)
     ·
      have i2 := ka
      try simp only [BS] at i2
      have hB := i2
      have hne : eok c k n ((ab ((c.blocks.getD k default).ins.getD n default)).getD q 0) ((((A.getD k default).getD (n + 1) default)).getD p 0) := ⟨hB.1, fun h => by have h2 := hB.2; simp_all⟩
      have oB := g8.len
      have hra := g8.row ((ab ((c.blocks.getD k default).ins.getD n default)).getD q 0).toNat (by omega)
      have hrx := g8.row ((((A.getD k default).getD (n + 1) default)).getD p 0).toNat (by omega)
      have hnx := n64 (s := E.getD ((ab ((c.blocks.getD k default).ins.getD n default)).getD q 0).toNat default) (n := (((A.getD k default).getD (n + 1) default)).getD p 0) (by omega)
      have hna := n64 (s := E.getD ((((A.getD k default).getD (n + 1) default)).getD p 0).toNat default) (n := (ab ((c.blocks.getD k default).ins.getD n default)).getD q 0) (by omega)
      have hax : ((ab ((c.blocks.getD k default).ins.getD n default)).getD q 0).toNat ≠ ((((A.getD k default).getD (n + 1) default)).getD p 0).toNat := by have := hB.1; omega
      refine aa ?_
      refine wm (.func (.func 50) #[] #[(.pointer (some ⟨J, 0, none⟩))]) rfl rfl rfl ?_
      refine wm (iI ((ab ((c.blocks.getD k default).ins.getD n default)).getD q 0)) rfl rfl rfl ?_
      refine wm (iI (((A.getD k default).getD (n + 1) default).getD p 0)) rfl rfl rfl ?_
      refine aE (R := fun v H' => ∃ (rhc : List Hd) (rlc : List (List U64)) (dk : Fp) (c8 : Option Addr) (dd : Nat) (f4 : Fp) (F' : Fz), Fz.le kR F' ∧ HS (Base.of H []) F' H' [g9, dk, f4, [(J, .cells [(.slice c8 rhc.length dd)] none false)], g6, kO, lO, kK] R ∧ OS F' (.slice c8 rhc.length dd) rhc dk ∧ SF F' rhc rlc f4 ∧ v = .tuple #[] ∧ (Con E rlc ((ab ((c.blocks.getD k default).ins.getD n default)).getD q 0) (((A.getD k default).getD (n + 1) default).getD p 0))) (ap_callc rfl rfl rfl rfl) rfl rfl ?_ ?_
      ·
       refine aM Tryd.func50 rfl rfl ?_
       refine am 1 rfl ?_
       refine aa ?_
       obtain ⟨oa, mQ⟩ := Sv.view (OS.sv aw dn (i := 1) rfl)
       obtain ⟨mz, k5, f9, e6, mD⟩ := SF.open f3 dn (q := 2) (i := ((ab ((c.blocks.getD k default).ins.getD n default)).getD q 0).toNat) rfl (by first | (dsimp only; omega) | omega | exact ah _ _ _ | (dsimp only; exact ah _ _ _))
       have f9 : HS _ _ _ [_, a0, mz, [(J, .cells [(.slice Z I.length al)] none false)], _, _, _, _, k5] _ := f9
       have e6 : OS kR (.slice (I.getD (((ab ((c.blocks.getD k default).ins.getD n default)).getD q 0).toNat) default).a (I.getD (((ab ((c.blocks.getD k default).ins.getD n default)).getD q 0).toNat) default).n (I.getD (((ab ((c.blocks.getD k default).ins.getD n default)).getD q 0).toNat) default).k) (E.getD (((ab ((c.blocks.getD k default).ins.getD n default)).getD q 0).toNat) default) k5 := e6
       have oG := OS.nlen e6
       have oO : in64 (((A.getD k default).getD (n + 1) default).getD p 0) → in64 (Int.tdiv (((A.getD k default).getD (n + 1) default).getD p 0) 64) := fun h => vq h (by decide)
       obtain ⟨ob, lF⟩ := Sv.view (OS.sv e6 f9 (i := 8) rfl)
       have pi := fU (lF ((Int.tdiv (((A.getD k default).getD (n + 1) default).getD p 0) 64).toNat))
       refine wRo 14 0 [(0, .o (.slice Z I.length al)), (3, .o (.slice (I.getD (((ab ((c.blocks.getD k default).ins.getD n default)).getD q 0).toNat) default).a (I.getD (((ab ((c.blocks.getD k default).ins.getD n default)).getD q 0).toNat) default).n (I.getD (((ab ((c.blocks.getD k default).ins.getD n default)).getD q 0).toNat) default).k)), (7, .o (.int .u64 (((E.getD (((ab ((c.blocks.getD k default).ins.getD n default)).getD q 0).toNat) default).getD ((Int.tdiv (((A.getD k default).getD (n + 1) default).getD p 0) 64).toNat) default).n)))] 5 18 [] [(17, (.int .u64 (aL .or .u64 (((E.getD (((ab ((c.blocks.getD k default).ins.getD n default)).getD q 0).toNat) default).getD ((Int.tdiv (((A.getD k default).getD (n + 1) default).getD p 0) 64).toNat) default).n) (IntKind.u64.wrap (1 * 2 ^ (Nat.min ((Int.tmod (((A.getD k default).getD (n + 1) default).getD p 0) 64).toNat) 64)))))), (18, (.pointer (some ⟨sB (.slice (I.getD (((ab ((c.blocks.getD k default).ins.getD n default)).getD q 0).toNat) default).a (I.getD (((ab ((c.blocks.getD k default).ins.getD n default)).getD q 0).toNat) default).n (I.getD (((ab ((c.blocks.getD k default).ins.getD n default)).getD q 0).toNat) default).k), sO (.slice (I.getD (((ab ((c.blocks.getD k default).ins.getD n default)).getD q 0).toNat) default).a (I.getD (((ab ((c.blocks.getD k default).ins.getD n default)).getD q 0).toNat) default).n (I.getD (((ab ((c.blocks.getD k default).ins.getD n default)).getD q 0).toNat) default).k) + ((Int.tdiv (((A.getD k default).getD (n + 1) default).getD p 0) 64).toNat) * Rp.sz U64, none⟩)))] (vA (ql 85 0 (HS.hc dn (i := 3) rfl) rfl rfl) (vA (Sv.ix (j := ((ab ((c.blocks.getD k default).ins.getD n default)).getD q 0)) (OS.sv aw dn (i := 1) rfl) (by first | (dsimp only; omega) | omega | exact ah _ _ _ | (dsimp only; exact ah _ _ _)) (by first | (dsimp only; omega) | omega | exact ah _ _ _ | (dsimp only; exact ah _ _ _))) (vA (ql 86 0 (vH (mQ (((ab ((c.blocks.getD k default).ins.getD n default)).getD q 0).toNat)) (by first | (dsimp only; omega) | omega | exact ah _ _ _ | (dsimp only; exact ah _ _ _))) rfl rfl) (vA (vA (show (64 : Int) ≠ 0 from by decide) (vq (a := (((A.getD k default).getD (n + 1) default).getD p 0)) (b := 64) (by first | (dsimp only; omega) | omega | exact ah _ _ _ | (dsimp only; exact ah _ _ _)) (by decide))) (vA (Sv.ix (j := Int.tdiv (((A.getD k default).getD (n + 1) default).getD p 0) 64) (OS.sv e6 f9 (i := 8) rfl) (by first | (dsimp only; omega) | omega | exact ah _ _ _ | (dsimp only; exact ah _ _ _)) (by first | (dsimp only; omega) | omega | exact ah _ _ _ | (dsimp only; exact ah _ _ _))) (vA (ql 87 0 (vU (lF ((Int.tdiv (((A.getD k default).getD (n + 1) default).getD p 0) 64).toNat)) (by first | (dsimp only; omega) | omega | exact ah _ _ _ | (dsimp only; exact ah _ _ _))) rfl rfl) (vA (show (64 : Int) ≠ 0 from by decide) (vA (vu (n := Int.tmod (((A.getD k default).getD (n + 1) default).getD p 0) 64) (by first | (dsimp only; omega) | omega | exact ah _ _ _ | (dsimp only; exact ah _ _ _))) (vA (show (0 : Int) ≤ Int.tmod (((A.getD k default).getD (n + 1) default).getD p 0) 64 from by first | (dsimp only; omega) | omega | exact ah _ _ _ | (dsimp only; exact ah _ _ _)) (vA (Sv.ix (j := Int.tdiv (((A.getD k default).getD (n + 1) default).getD p 0) 64) (OS.sv e6 f9 (i := 8) rfl) (by first | (dsimp only; omega) | omega | exact ah _ _ _ | (dsimp only; exact ah _ _ _)) (by first | (dsimp only; omega) | omega | exact ah _ _ _ | (dsimp only; exact ah _ _ _))) trivial)))))))))) rfl fun _ => ?_
       refine aT (ei (α := U64) (j := (Int.tdiv (((A.getD k default).getD (n + 1) default).getD p 0) 64).toNat) (off := 0) (q := 8) ⟨aL .or .u64 (((E.getD (((ab ((c.blocks.getD k default).ins.getD n default)).getD q 0).toNat) default).getD ((Int.tdiv (((A.getD k default).getD (n + 1) default).getD p 0) 64).toNat) default).n) (IntKind.u64.wrap (1 * 2 ^ (Nat.min ((Int.tmod (((A.getD k default).getD (n + 1) default).getD p 0) 64).toNat) 64)))⟩ e6 f9 rfl rfl rfl rfl rfl rfl rfl rfl (aY (x := default) (by first | (dsimp only; omega) | omega | exact ah _ _ _ | (dsimp only; exact ah _ _ _))) rfl (by rintro cs ⟨rfl, _⟩; exact ⟨Nat.le_of_ble_eq_true rfl, rfl, by first | (dsimp only; omega) | omega | exact ah _ _ _ | (dsimp only; exact ah _ _ _)⟩)) rfl ?_
       rintro _ o8 nt ⟨lq, (mO : HS _ _ _ [_, _, _, _, _, _, _, _, nt] _), _⟩
       have nN := OS.len' lq
       refine aj 1 rfl ?_
       obtain ⟨mB, go, ll⟩ := SF.shut mD fR mO (q := 2) (m := 8) (by decide) rfl rfl lq
       have go : HS _ _ _ [_, _, mB, _, _, _, _, _, []] _ := go
       have om := FAM.len ll
       have pn : ((E.set (((ab ((c.blocks.getD k default).ins.getD n default)).getD q 0).toNat) ((E.getD (((ab ((c.blocks.getD k default).ins.getD n default)).getD q 0).toNat) default).set ((Int.tdiv (((A.getD k default).getD (n + 1) default).getD p 0) 64).toNat) ⟨aL .or .u64 (((E.getD (((ab ((c.blocks.getD k default).ins.getD n default)).getD q 0).toNat) default).getD ((Int.tdiv (((A.getD k default).getD (n + 1) default).getD p 0) 64).toNat) default).n) (IntKind.u64.wrap (1 * 2 ^ (Nat.min ((Int.tmod (((A.getD k default).getD (n + 1) default).getD p 0) 64).toNat) 64)))⟩)).getD (((A.getD k default).getD (n + 1) default).getD p 0).toNat default).length = (E.getD (((A.getD k default).getD (n + 1) default).getD p 0).toNat default).length := by rw [ec, if_neg (fun e => hax e.1)]
       refine aa ?_
       obtain ⟨oc, mR⟩ := Sv.view (OS.sv aw go (i := 1) rfl)
       obtain ⟨mA, k6, g0, fd, mE⟩ := SF.open ll go (q := 2) (i := (((A.getD k default).getD (n + 1) default).getD p 0).toNat) rfl (by first | (dsimp only; omega) | omega | exact ah _ _ _ | (dsimp only; exact ah _ _ _))
       have g0 : HS _ _ _ [_, _, mA, _, _, _, _, _, _, k6] _ := g0
       have fd : OS kR (.slice (I.getD (((A.getD k default).getD (n + 1) default).getD p 0).toNat default).a (I.getD (((A.getD k default).getD (n + 1) default).getD p 0).toNat default).n (I.getD (((A.getD k default).getD (n + 1) default).getD p 0).toNat default).k) ((E.set (((ab ((c.blocks.getD k default).ins.getD n default)).getD q 0).toNat) ((E.getD (((ab ((c.blocks.getD k default).ins.getD n default)).getD q 0).toNat) default).set ((Int.tdiv (((A.getD k default).getD (n + 1) default).getD p 0) 64).toNat) ⟨aL .or .u64 (((E.getD (((ab ((c.blocks.getD k default).ins.getD n default)).getD q 0).toNat) default).getD ((Int.tdiv (((A.getD k default).getD (n + 1) default).getD p 0) 64).toNat) default).n) (IntKind.u64.wrap (1 * 2 ^ (Nat.min ((Int.tmod (((A.getD k default).getD (n + 1) default).getD p 0) 64).toNat) 64)))⟩)).getD (((A.getD k default).getD (n + 1) default).getD p 0).toNat default) k6 := fd
       have oH := OS.nlen fd
       have oP : in64 ((ab ((c.blocks.getD k default).ins.getD n default)).getD q 0) → in64 (Int.tdiv ((ab ((c.blocks.getD k default).ins.getD n default)).getD q 0) 64) := fun h => vq h (by decide)
       obtain ⟨od, lG⟩ := Sv.view (OS.sv fd g0 (i := 9) rfl)
       have pj := fU (lG ((Int.tdiv ((ab ((c.blocks.getD k default).ins.getD n default)).getD q 0) 64).toNat))
       refine wRo 14 0 [(0, .o (.slice Z I.length al)), (3, .o (.slice (I.getD (((A.getD k default).getD (n + 1) default).getD p 0).toNat default).a (I.getD (((A.getD k default).getD (n + 1) default).getD p 0).toNat default).n (I.getD (((A.getD k default).getD (n + 1) default).getD p 0).toNat default).k)), (7, .o (.int .u64 ((((E.set (((ab ((c.blocks.getD k default).ins.getD n default)).getD q 0).toNat) ((E.getD (((ab ((c.blocks.getD k default).ins.getD n default)).getD q 0).toNat) default).set ((Int.tdiv (((A.getD k default).getD (n + 1) default).getD p 0) 64).toNat) ⟨aL .or .u64 (((E.getD (((ab ((c.blocks.getD k default).ins.getD n default)).getD q 0).toNat) default).getD ((Int.tdiv (((A.getD k default).getD (n + 1) default).getD p 0) 64).toNat) default).n) (IntKind.u64.wrap (1 * 2 ^ (Nat.min ((Int.tmod (((A.getD k default).getD (n + 1) default).getD p 0) 64).toNat) 64)))⟩)).getD (((A.getD k default).getD (n + 1) default).getD p 0).toNat default).getD ((Int.tdiv ((ab ((c.blocks.getD k default).ins.getD n default)).getD q 0) 64).toNat) default).n)))] 19 32 [] [(31, (.int .u64 (aL .or .u64 ((((E.set (((ab ((c.blocks.getD k default).ins.getD n default)).getD q 0).toNat) ((E.getD (((ab ((c.blocks.getD k default).ins.getD n default)).getD q 0).toNat) default).set ((Int.tdiv (((A.getD k default).getD (n + 1) default).getD p 0) 64).toNat) ⟨aL .or .u64 (((E.getD (((ab ((c.blocks.getD k default).ins.getD n default)).getD q 0).toNat) default).getD ((Int.tdiv (((A.getD k default).getD (n + 1) default).getD p 0) 64).toNat) default).n) (IntKind.u64.wrap (1 * 2 ^ (Nat.min ((Int.tmod (((A.getD k default).getD (n + 1) default).getD p 0) 64).toNat) 64)))⟩)).getD (((A.getD k default).getD (n + 1) default).getD p 0).toNat default).getD ((Int.tdiv ((ab ((c.blocks.getD k default).ins.getD n default)).getD q 0) 64).toNat) default).n) (IntKind.u64.wrap (1 * 2 ^ (Nat.min ((Int.tmod ((ab ((c.blocks.getD k default).ins.getD n default)).getD q 0) 64).toNat) 64)))))), (32, (.pointer (some ⟨sB (.slice (I.getD (((A.getD k default).getD (n + 1) default).getD p 0).toNat default).a (I.getD (((A.getD k default).getD (n + 1) default).getD p 0).toNat default).n (I.getD (((A.getD k default).getD (n + 1) default).getD p 0).toNat default).k), sO (.slice (I.getD (((A.getD k default).getD (n + 1) default).getD p 0).toNat default).a (I.getD (((A.getD k default).getD (n + 1) default).getD p 0).toNat default).n (I.getD (((A.getD k default).getD (n + 1) default).getD p 0).toNat default).k) + ((Int.tdiv ((ab ((c.blocks.getD k default).ins.getD n default)).getD q 0) 64).toNat) * Rp.sz U64, none⟩)))] (vA (ql 85 0 (HS.hc go (i := 3) rfl) rfl rfl) (vA (Sv.ix (j := (((A.getD k default).getD (n + 1) default).getD p 0)) (OS.sv aw go (i := 1) rfl) (by first | (dsimp only; omega) | omega | exact ah _ _ _ | (dsimp only; exact ah _ _ _)) (by first | (dsimp only; omega) | omega | exact ah _ _ _ | (dsimp only; exact ah _ _ _))) (vA (ql 86 0 (vH (mR (((A.getD k default).getD (n + 1) default).getD p 0).toNat) (by first | (dsimp only; omega) | omega | exact ah _ _ _ | (dsimp only; exact ah _ _ _))) rfl rfl) (vA (vA (show (64 : Int) ≠ 0 from by decide) (vq (a := ((ab ((c.blocks.getD k default).ins.getD n default)).getD q 0)) (b := 64) (by first | (dsimp only; omega) | omega | exact ah _ _ _ | (dsimp only; exact ah _ _ _)) (by decide))) (vA (Sv.ix (j := Int.tdiv ((ab ((c.blocks.getD k default).ins.getD n default)).getD q 0) 64) (OS.sv fd g0 (i := 9) rfl) (by first | (dsimp only; omega) | omega | exact ah _ _ _ | (dsimp only; exact ah _ _ _)) (by first | (dsimp only; omega) | omega | exact ah _ _ _ | (dsimp only; exact ah _ _ _))) (vA (ql 87 0 (vU (lG ((Int.tdiv ((ab ((c.blocks.getD k default).ins.getD n default)).getD q 0) 64).toNat)) (by first | (dsimp only; omega) | omega | exact ah _ _ _ | (dsimp only; exact ah _ _ _))) rfl rfl) (vA (show (64 : Int) ≠ 0 from by decide) (vA (vu (n := Int.tmod ((ab ((c.blocks.getD k default).ins.getD n default)).getD q 0) 64) (by first | (dsimp only; omega) | omega | exact ah _ _ _ | (dsimp only; exact ah _ _ _))) (vA (show (0 : Int) ≤ Int.tmod ((ab ((c.blocks.getD k default).ins.getD n default)).getD q 0) 64 from by first | (dsimp only; omega) | omega | exact ah _ _ _ | (dsimp only; exact ah _ _ _)) (vA (Sv.ix (j := Int.tdiv ((ab ((c.blocks.getD k default).ins.getD n default)).getD q 0) 64) (OS.sv fd g0 (i := 9) rfl) (by first | (dsimp only; omega) | omega | exact ah _ _ _ | (dsimp only; exact ah _ _ _)) (by first | (dsimp only; omega) | omega | exact ah _ _ _ | (dsimp only; exact ah _ _ _))) trivial)))))))))) rfl fun _ => ?_
       refine aT (ei (α := U64) (j := (Int.tdiv ((ab ((c.blocks.getD k default).ins.getD n default)).getD q 0) 64).toNat) (off := 0) (q := 9) ⟨aL .or .u64 ((((E.set (((ab ((c.blocks.getD k default).ins.getD n default)).getD q 0).toNat) ((E.getD (((ab ((c.blocks.getD k default).ins.getD n default)).getD q 0).toNat) default).set ((Int.tdiv (((A.getD k default).getD (n + 1) default).getD p 0) 64).toNat) ⟨aL .or .u64 (((E.getD (((ab ((c.blocks.getD k default).ins.getD n default)).getD q 0).toNat) default).getD ((Int.tdiv (((A.getD k default).getD (n + 1) default).getD p 0) 64).toNat) default).n) (IntKind.u64.wrap (1 * 2 ^ (Nat.min ((Int.tmod (((A.getD k default).getD (n + 1) default).getD p 0) 64).toNat) 64)))⟩)).getD (((A.getD k default).getD (n + 1) default).getD p 0).toNat default).getD ((Int.tdiv ((ab ((c.blocks.getD k default).ins.getD n default)).getD q 0) 64).toNat) default).n) (IntKind.u64.wrap (1 * 2 ^ (Nat.min ((Int.tmod ((ab ((c.blocks.getD k default).ins.getD n default)).getD q 0) 64).toNat) 64)))⟩ fd g0 rfl rfl rfl rfl rfl rfl rfl rfl (aY (x := default) (by first | (dsimp only; omega) | omega | exact ah _ _ _ | (dsimp only; exact ah _ _ _))) rfl (by rintro cs ⟨rfl, _⟩; exact ⟨Nat.le_of_ble_eq_true rfl, rfl, by first | (dsimp only; omega) | omega | exact ah _ _ _ | (dsimp only; exact ah _ _ _)⟩)) rfl ?_
       rintro _ o9 nv ⟨lr, (mP : HS _ _ _ [_, _, _, _, _, _, _, _, _, nv] _), _⟩
       have nO := OS.len' lr
       refine aj 0 rfl ?_
       obtain ⟨k8, kj, lm⟩ := SF.shut mE fR mP (q := 2) (m := 9) (by decide) rfl rfl lr
       have kj : HS _ _ _ [_, _, k8, _, _, _, _, _, _, []] _ := kj
       have oo := FAM.len lm
       refine aZ ⟨.inl rfl, _, rfl, I, (E.set (((ab ((c.blocks.getD k default).ins.getD n default)).getD q 0).toNat) ((E.getD (((ab ((c.blocks.getD k default).ins.getD n default)).getD q 0).toNat) default).set ((Int.tdiv (((A.getD k default).getD (n + 1) default).getD p 0) 64).toNat) ⟨aL .or .u64 (((E.getD (((ab ((c.blocks.getD k default).ins.getD n default)).getD q 0).toNat) default).getD ((Int.tdiv (((A.getD k default).getD (n + 1) default).getD p 0) 64).toNat) default).n) (IntKind.u64.wrap (1 * 2 ^ (Nat.min ((Int.tmod (((A.getD k default).getD (n + 1) default).getD p 0) 64).toNat) 64)))⟩)).set (((A.getD k default).getD (n + 1) default).getD p 0).toNat (((E.set (((ab ((c.blocks.getD k default).ins.getD n default)).getD q 0).toNat) ((E.getD (((ab ((c.blocks.getD k default).ins.getD n default)).getD q 0).toNat) default).set ((Int.tdiv (((A.getD k default).getD (n + 1) default).getD p 0) 64).toNat) ⟨aL .or .u64 (((E.getD (((ab ((c.blocks.getD k default).ins.getD n default)).getD q 0).toNat) default).getD ((Int.tdiv (((A.getD k default).getD (n + 1) default).getD p 0) 64).toNat) default).n) (IntKind.u64.wrap (1 * 2 ^ (Nat.min ((Int.tmod (((A.getD k default).getD (n + 1) default).getD p 0) 64).toNat) 64)))⟩)).getD (((A.getD k default).getD (n + 1) default).getD p 0).toNat default).set ((Int.tdiv ((ab ((c.blocks.getD k default).ins.getD n default)).getD q 0) 64).toNat) ⟨aL .or .u64 ((((E.set (((ab ((c.blocks.getD k default).ins.getD n default)).getD q 0).toNat) ((E.getD (((ab ((c.blocks.getD k default).ins.getD n default)).getD q 0).toNat) default).set ((Int.tdiv (((A.getD k default).getD (n + 1) default).getD p 0) 64).toNat) ⟨aL .or .u64 (((E.getD (((ab ((c.blocks.getD k default).ins.getD n default)).getD q 0).toNat) default).getD ((Int.tdiv (((A.getD k default).getD (n + 1) default).getD p 0) 64).toNat) default).n) (IntKind.u64.wrap (1 * 2 ^ (Nat.min ((Int.tmod (((A.getD k default).getD (n + 1) default).getD p 0) 64).toNat) 64)))⟩)).getD (((A.getD k default).getD (n + 1) default).getD p 0).toNat default).getD ((Int.tdiv ((ab ((c.blocks.getD k default).ins.getD n default)).getD q 0) 64).toNat) default).n) (IntKind.u64.wrap (1 * 2 ^ (Nat.min ((Int.tmod ((ab ((c.blocks.getD k default).ins.getD n default)).getD q 0) 64).toNat) 64)))⟩), a0, Z, al, k8, _, fR, (HS.sub kj (List.sublist_append_left _ _)), aw, lm, rfl, (by exact con_two (by omega) (by omega) hax List.length_set List.length_set (fun i => add_ok (by omega) (by assumption) i) (fun i => add_ok (by omega) (by assumption) i))⟩
      rintro _ o7 ⟨rhc, rlc, dk, c8, dd, f4, oR, mF, mN, jq, jc, rfl, hcon⟩
      have nh := FAM.len jc
      refine eO ?_
      refine am 2 rfl ?_
      refine wR 1 [] 73 73 [98] [(73, (iI ((p : Int) + 1)))] (vA (vi (n := (p : Int) + 1) (by first | (dsimp only; omega) | omega)) trivial) rfl fun _ => ?_
      refine lH _ _ _ ?_ ⟨rhc, rlc, p + 1, dk, c8, dd, f4, _, (fT (h4) mF), mN, jq, jc, (agC rfl (agC rfl (agC rfl (agC rfl (agC rfl (agC rfl (agC rfl (agC rfl (agC rfl (agC rfl (agC rfl (agC rfl (agC rfl (agC rfl (agC rfl (agC rfl (agC rfl (agC rfl (agC rfl (agC rfl (agC rfl (agC rfl (agC rfl (agC rfl (agC rfl (agC rfl (agC rfl (agC rfl (agC rfl (agC rfl agN)))))))))))))))))))))))))))))), rfl, (by first | exact rw_yes (by omega) g8 hcon hwq.1 hxp.1 hne | exact rw_no (by omega) g8 hne), (by first | assumption | omega | (simp at *; omega))⟩
      omega
     have i2 := ka
     try simp only [BS] at i2
     have hB := i2
     have hne : ¬ eok c k n ((ab ((c.blocks.getD k default).ins.getD n default)).getD q 0) ((((A.getD k default).getD (n + 1) default)).getD p 0) := fun he => he.2 (hB he.1)
     refine wR 1 [] 73 73 [98] [(73, (iI ((p : Int) + 1)))] (vA (vi (n := (p : Int) + 1) (by first | (dsimp only; omega) | omega)) trivial) rfl fun _ => ?_
     refine lH _ _ _ ?_ ⟨I, E, p + 1, a0, Z, al, e0, _, (h4), dn, aw, f3, (agC rfl (agC rfl (agC rfl (agC rfl (agC rfl (agC rfl (agC rfl (agC rfl (agC rfl (agC rfl (agC rfl (agC rfl (agC rfl (agC rfl (agC rfl (agC rfl (agC rfl (agC rfl (agC rfl (agC rfl (agC rfl (agC rfl (agC rfl (agC rfl (agC rfl (agC rfl (agC rfl (agC rfl (agC rfl (agC rfl agN)))))))))))))))))))))))))))))), rfl, (by first | exact rw_yes (by omega) g8 hcon hwq.1 hxp.1 hne | exact rw_no (by omega) g8 hne), (by first | assumption | omega | (simp at *; omega))⟩
     omega
    have kZ := j9
    try simp only [BS] at kZ
    refine wR 1 [] 60 60 [99] [(60, (iI ((q : Int) + 1)))] (vA (vi (n := (q : Int) + 1) (by first | (dsimp only; omega) | omega)) trivial) rfl fun _ => ?_
    refine mV _ _ _ ?_ ⟨I, E, q + 1, a0, Z, al, e0, _, (fT (h3) h4), dn, aw, f3, (agC rfl (agC rfl (agC rfl (agC rfl (agC rfl (agC rfl (agC rfl (agC rfl (agC rfl (agC rfl (agC rfl (agC rfl (agC rfl (agC rfl (agC rfl (agC rfl (agC rfl (agC rfl (agC rfl (agC rfl (agC rfl (agC rfl (agC rfl (agC rfl (agC rfl agN))))))))))))))))))))))))), rfl, (by exact rw_e2s pl g8 (show q < (ab ((c.blocks.getD k default).ins.getD n default)).length by omega) (by omega)), (by first | assumption | omega | (simp at *; omega))⟩
    omega
   have kX := j8
   try simp only [BS] at kX
   refine wR 1 [] 52 52 [100] [(52, (iI ((n : Int) + 1)))] (vA (vi (n := (n : Int) + 1) (by first | (dsimp only; omega) | omega)) trivial) rfl fun _ => ?_
   refine mU _ _ _ ?_ ⟨hF, j0, n + 1, b9, b5, b7, ez, _, (fT (fT (hA) h1) h3), (HS.sub em (List.sublist_append_left _ _)), g5, hE, (agC rfl (agC rfl (agC rfl (agC rfl (agC rfl (agC rfl (agC rfl (agC rfl (agC rfl (agC rfl (agC rfl (agC rfl (agC rfl (agC rfl (agC rfl (agC rfl agN)))))))))))))))), rfl, (by exact rw_e1s mk (show (ab ((c.blocks.getD k default).ins.getD n default)).length ≤ q by omega)), (by first | assumption | omega | (simp at *; omega))⟩
   omega
  have kW := j7
  try simp only [BS] at kW
  refine wR 1 [] 44 44 [101] [(44, (iI ((k : Int) + 1)))] (vA (vi (n := (k : Int) + 1) (by first | (dsimp only; omega) | omega)) trivial) rfl fun _ => ?_
  refine mT _ _ _ ?_ ⟨g7, jZ, k + 1, a7, a5, a6, dv, _, (fT (hz) hA), (HS.sub it (List.sublist_append_left _ _)), c9, et, (agC rfl (agC rfl (agC rfl (agC rfl (agC rfl (agC rfl (agC rfl (agC rfl agN)))))))), rfl, (by exact rw_e0 me (show (c.blocks.getD k default).ins.length = n by omega)), (by first | assumption | omega | (simp at *; omega))⟩
  omega
 have kV := j6
 try simp only [BS] at kV
 refine aa ?_
 refine wRo 2 0 [(1, .o (iI c.regs))] 102 103 [] [(103, (iI c.regs))] (vA (ql 3 1 (HS.hc hC (i := 0) rfl) rfl rfl) trivial) rfl fun _ => ?_
 refine aK (cV (default : Hd) hC rfl rfl rfl rfl rfl rfl rfl rfl rfl rfl (by first | (dsimp only; omega) | omega) (by first | (dsimp only; omega) | omega)) rfl rfl ?_
 rintro _ nY lK ⟨kS, lI, rfl, lV, (lZ : HS _ _ _ [_, ay, c5, [(J, .cells [(.slice an ch.length ar)] none false)], _, lK] _), _⟩
 have hl := HS.snoc lZ
 have hl : HS _ _ _ [_, _, _, _, _, _, []] _ := hl
 have kx : SF kQ (List.replicate c.regs.toNat (default : Hd)) (List.replicate c.regs.toNat ([] : List Int)) [] := SF.rep _
 have nz := FAM.len kx
 refine wa (.slice kS (List.replicate c.regs.toNat (default : Hd)).length lI) rfl rfl rfl ?_
 refine aj 3 rfl ?_
 refine wR 2 [(0, .o (.slice an ch.length ar))] 105 107 [] [(106, (iI (ch.length : Int))), (107, (iI 0))] (vA (ql 85 0 (HS.hc hl (i := 3) rfl) rfl rfl) trivial) rfl fun _ => ?_
 refine ak (fun (mm : Nat) f H' => ∃ (hG : List Hd) (kL : List (List U64)) (oh : List Hd) (ol : List (List Int)) (k : Nat) (a3 : Option Addr) (a4 : Nat) (c4 : Fp) (b0 : Fp) (a8 : Option Addr) (bk : Nat) (e4 : Fp) (ds : Fp) (F' : Fz), Fz.le kQ F' ∧ HS (Base.of H []) F' H' [g9, b0, ds, [(J, .cells [(.slice a8 hG.length bk)] none false)], g6, c4, e4] R ∧ OS F' (.slice a3 oh.length a4) oh c4 ∧ OS F' (.slice a8 hG.length bk) hG b0 ∧ SF F' oh ol e4 ∧ SF F' hG kL ds ∧ aH f [(1, (.pointer (some ⟨b1, 0, none⟩))), (2, (.slice none 0 0)), (3, (.pointer (some ⟨J, 0, none⟩))), (15, (.slice a3 oh.length a4)), (106, (iI (ch.length : Int))), (107, (iI (k : Int)))] ∧ mm = c.regs.toNat - k ∧ (RwF c kL (intE c)) ∧ (ol.length = c.regs.toNat) ∧ (∀ r, r < k → Lst (ej ol r) (Sy (intE c) r)) ∧ (∀ r, k ≤ r → ej ol r = []) ∧ (k ≤ c.regs.toNat)) _ ⟨ch, jw, List.replicate c.regs.toNat (default : Hd), List.replicate c.regs.toNat ([] : List Int), 0, kS, lI, lK, ay, an, ar, [], c5, _, fR, hl, lV, g4, kx, hD, (agC rfl (agC rfl (agC rfl (agC rfl (agC rfl (agC rfl agN)))))), rfl, (by exact rw_last lN (by omega)), (by simp), (by intro r hr; omega), (by exact fun r _ => row_rep), (by first | assumption | omega | (simp at *; omega))⟩ ?_
 rintro nU oe nZ ⟨hG, kL, oh, ol, k, a3, a4, c4, b0, a8, bk, e4, ds, mq, kt, kE, ea, iz, e2, hK, ky, rfl, mn, l6, ln, l7, hk⟩ l3
 refine aq _ ky (fun _ => ?_)
 clear ky
 have mv := FAM.len e2
 have mu := FAM.len hK
 refine am 1 rfl ?_
 refine wR 2 [] 108 108 [] [(108, (.bool (decide ((k : Int) < (ch.length : Int)))))] trivial rfl fun _ => ?_
 refine au 4 5 (v := (decide ((k : Int) < (ch.length : Int)))) rfl rfl rfl rfl (fun hS => ?_) (fun hS => ?_)
 ·
  have j2 := hS
  try simp only [BS] at j2
  have oC := mn.len
  refine wR 2 [] 109 109 [16] [(16, (iI (k : Int)))] trivial rfl fun _ => ?_
  refine wR 2 [] 1 0 [17] [(17, (iI 0))] trivial rfl fun _ => ?_
  refine ak (fun (mm : Nat) f H' => ∃ (ci : List Hd) (d1 : List (List U64)) (a1 : List Hd) (cc : List (List Int)) (n : Nat) (T : Option Addr) (U : Nat) (b3 : Fp) (av : Fp) (V : Option Addr) (ad : Nat) (co : Fp) (e5 : Fp) (F' : Fz), Fz.le mq F' ∧ HS (Base.of H []) F' H' [g9, av, e5, [(J, .cells [(.slice V ci.length ad)] none false)], g6, b3, co] R ∧ OS F' (.slice T a1.length U) a1 b3 ∧ OS F' (.slice V ci.length ad) ci av ∧ SF F' a1 cc co ∧ SF F' ci d1 e5 ∧ aH f [(1, (.pointer (some ⟨b1, 0, none⟩))), (2, (.slice none 0 0)), (3, (.pointer (some ⟨J, 0, none⟩))), (15, (.slice T a1.length U)), (16, (iI (k : Int))), (17, (iI (n : Int))), (106, (iI (ch.length : Int))), (107, (iI (k : Int))), (108, (.bool (decide ((k : Int) < (ch.length : Int)))))] ∧ mm = c.regs.toNat - n ∧ (RwF c d1 (intE c)) ∧ (cc.length = c.regs.toNat) ∧ (∀ r, r < k → Lst (ej cc r) (Sy (intE c) r)) ∧ (∀ r, k < r → ej cc r = []) ∧ (Lst (ej cc k) (upS d1 k n)) ∧ (n ≤ c.regs.toNat)) _ ⟨hG, kL, oh, ol, 0, a3, a4, c4, b0, a8, bk, e4, ds, _, fR, kE, ea, iz, e2, hK, (agC rfl (agC rfl (agC rfl (agC rfl (agC rfl (agC rfl (agC rfl (agC rfl (agC rfl agN))))))))), rfl, (by exact mn), (by first | assumption | omega | (simp at *; omega)), (by exact ln), (by exact fun r hr => l7 r (by omega)), (by rw [l7 k (Nat.le_refl _)]; exact up_zero), (by first | assumption | omega | (simp at *; omega))⟩ ?_
  rintro nV og n1 ⟨ci, d1, a1, cc, n, T, U, b3, av, V, ad, co, e5, kP, hX, e1, b2, bb, e3, g3, kz, rfl, hQ, kD, i3, ja, hI, hn⟩ kI
  refine aq _ kz (fun _ => ?_)
  clear kz
  have mx := FAM.len e3
  have mw := FAM.len g3
  have mG := hQ.len
  have mI := hQ.row k (by omega)
  have ow : ((cc.getD k default).length : Int) ≤ c.regs := Lst.len hI hrg.1 (fun r h => by have := h.2; omega)
  refine am 2 rfl ?_
  refine wR 1 [(2, .o (iI c.regs))] 110 113 [] [(113, (.bool (decide ((n : Int) < c.regs))))] (vA (ql 3 1 (HS.hc e1 (i := 0) rfl) rfl rfl) trivial) rfl fun _ => ?_
  refine au 4 5 (v := (decide ((n : Int) < c.regs))) rfl rfl rfl rfl (fun hV => ?_) (fun hV => ?_)
  ·
   have j3 := hV
   try simp only [BS] at j3
   have mG := hQ.len
   have mI := hQ.row k (by omega)
   obtain ⟨nw, l1⟩ := Sv.view (OS.sv bb e1 (i := 1) rfl)
   obtain ⟨lP, kl, c7, d2, kr⟩ := SF.open g3 e1 (q := 2) (i := k) rfl (by first | (dsimp only; omega) | omega)
   have c7 : HS _ _ _ [_, av, lP, [(J, .cells [(.slice V ci.length ad)] none false)], _, b3, co, kl] _ := c7
   have d2 : OS kP (.slice (ci.getD k default).a (ci.getD k default).n (ci.getD k default).k) (d1.getD k default) kl := d2
   have nR := OS.nlen d2
   obtain ⟨nx, kH⟩ := Sv.view (OS.sv d2 c7 (i := 7) rfl)
   have ot := fU (kH (n / 64))
   refine wR 1 [(0, .o (.slice V ci.length ad)), (3, .o (.slice (ci.getD k default).a (ci.getD k default).n (ci.getD k default).k)), (7, .o (.int .u64 ((d1.getD k default).getD (n / 64) default).n))] 116 129 [] [(129, (.bool (aL .and .u64 (Int.fdiv ((d1.getD k default).getD (n / 64) default).n (2 ^ (Nat.min (n % 64) 64))) 1 == 1)))] (vA (ql 85 0 (HS.hc e1 (i := 3) rfl) rfl rfl) (vA (Sv.ix (j := (k : Int)) (OS.sv bb e1 (i := 1) rfl) (by first | (dsimp only; omega) | omega) (by first | (dsimp only; omega) | omega)) (vA (ql 86 0 (vH (l1 k) (by first | (dsimp only; omega) | omega)) rfl rfl) (vA (vA (show (64 : Int) ≠ 0 from by decide) (vi (n := ((n / 64 : Nat) : Int)) (by first | (dsimp only; omega) | omega))) (vA (Sv.ix (j := ((n / 64 : Nat) : Int)) (OS.sv d2 c7 (i := 7) rfl) (by first | (dsimp only; omega) | omega) (by first | (dsimp only; omega) | omega)) (vA (ql 87 0 (vU (kH (n / 64)) (by first | (dsimp only; omega) | omega)) rfl rfl) (vA (show (64 : Int) ≠ 0 from by decide) (vA (vu (n := ((n % 64 : Nat) : Int)) (by first | (dsimp only; omega) | omega)) (vA (show (0 : Int) ≤ ((n % 64 : Nat) : Int) from by first | (dsimp only; omega) | omega) trivial))))))))) rfl fun _ => ?_
   refine au 0 2 (v := (aL .and .u64 (Int.fdiv ((d1.getD k default).getD (n / 64) default).n (2 ^ (Nat.min (n % 64) 64))) 1 == 1)) rfl rfl rfl rfl (fun hW => ?_) (fun hW => ?_)
   ·
    have j4 := hW
    try simp only [BS] at j4
    have hbit := eK (s := d1.getD k default) (k := n / 64) (b := n % 64) (by assumption) (by omega)
    rw [show 64 * (n / 64) + n % 64 = n by omega] at hbit
    refine aa ?_
    obtain ⟨ny, l2⟩ := Sv.view (OS.sv b2 c7 (i := 5) rfl)
    obtain ⟨lQ, km, h6, hb, lR⟩ := SF.open e3 c7 (q := 6) (i := k) rfl (by first | (dsimp only; omega) | omega)
    have h6 : HS _ _ _ [_, _, _, _, _, _, lQ, _, km] _ := h6
    have hb : OS kP (.slice (a1.getD k default).a (a1.getD k default).n (a1.getD k default).k) (cc.getD k default) km := hb
    have nS := OS.nlen hb
    refine wRo 7 0 [(5, .o (.slice (a1.getD k default).a (a1.getD k default).n (a1.getD k default).k))] 130 136 [] [(130, (.slice T a1.length U)), (131, (iI (k : Int))), (135, (.slice (a1.getD k default).a (a1.getD k default).n (a1.getD k default).k)), (136, (iI (n : Int)))] (vA (Sv.ix (j := (k : Int)) (OS.sv b2 c7 (i := 5) rfl) (by first | (dsimp only; omega) | omega) (by first | (dsimp only; omega) | omega)) (vA (ql 25 0 (vH (l2 k) (by first | (dsimp only; omega) | omega)) rfl rfl) trivial)) rfl fun _ => ?_
    refine aK (bF (α := Int) (ps := [(0, (iI (n : Int)))]) (cells := [(iI (n : Int))]) ([(n : Int)] : List Int) h6 rfl rfl rfl (by kernel_rfl) ⟨[(iI (n : Int))], [], rfl, ⟨rfl, by first | (dsimp only; omega) | omega⟩, rfl⟩ rfl) rfl rfl ?_
    rintro _ n2 mZ ⟨n7, oE, rfl, lW, (kF : HS _ _ _ [_, _, _, _, _, _, _, _, _, mZ] _), _⟩
    refine aK (ca (α := Int) (q := 8) hb kF rfl rfl rfl (OS.sv lW kF (i := 9) rfl) rfl rfl rfl rfl rfl rfl rfl (by first | omega | (simp only [List.length_append, List.length_cons, List.length_nil]; omega))) rfl rfl ?_
    rintro _ n3 m0 ⟨hR, iv, rfl, lX, (kG : HS _ _ _ [_, _, _, _, _, _, _, _, m0, _] _), _⟩
    refine wRo 1 9 [] 139 139 [] [(139, (.pointer (some ⟨sB (.slice T a1.length U), sO (.slice T a1.length U) + k * Rp.sz Hd, none⟩)))] (vA (Sv.ix (j := (k : Int)) (OS.sv b2 kG (i := 5) rfl) (by first | (dsimp only; omega) | omega) (by first | (dsimp only; omega) | omega)) trivial) rfl fun _ => ?_
    obtain ⟨kn, h7, kA⟩ := SF.shutN (⟨hR, ((cc.getD k default) ++ ([(n : Int)] : List Int)).length, iv⟩ : Hd) lR fR kG (q := 6) (m := 8) (by decide) rfl rfl lX
    have h7 : HS _ _ _ [_, _, _, _, _, _, kn, _, [], _] _ := h7
    have nA := FAM.len kA
    refine aT (ei (α := Hd) (j := k) (off := 0) (q := 5) (⟨hR, ((cc.getD k default) ++ ([(n : Int)] : List Int)).length, iv⟩ : Hd) b2 h7 rfl rfl rfl rfl rfl rfl rfl rfl (aY (x := default) (by first | (dsimp only; omega) | omega)) rfl (by rintro cs rfl; exact ⟨Nat.le_of_ble_eq_true rfl, rfl⟩)) rfl ?_
    rintro _ n4 lL ⟨h5, (l0 : HS _ _ _ [_, _, _, _, _, lL, _, _, _, _] _), _⟩
    have np := OS.len' h5
    refine aj 2 rfl ?_
    refine wR 1 [] 114 115 [17] [(17, (iI ((n : Int) + 1)))] (vA (vi (n := (n : Int) + 1) (by first | (dsimp only; omega) | omega)) trivial) rfl fun _ => ?_
    obtain ⟨ko, h8, kB⟩ := SF.shut0 kr fR l0 (q := 2) (m := 7) (by decide) rfl rfl d2
    have h8 : HS _ _ _ [_, _, ko, _, _, _, _, [], _, _] _ := h8
    have nB := FAM.len kB
    refine kI _ _ _ ?_ ⟨ci, d1, a1.set k (⟨hR, ((cc.getD k default) ++ ([(n : Int)] : List Int)).length, iv⟩ : Hd), cc.set k ((cc.getD k default) ++ ([(n : Int)] : List Int)), n + 1, T, U, lL, av, V, ad, kn, ko, _, (hX), (HS.sub h8 (List.sublist_append_left _ _)), (OS.norm h5), bb, kA, kB, (agC rfl (agC rfl (agC rfl (agC (show Value.slice T a1.length U = Value.slice T (a1.set k (⟨hR, ((cc.getD k default) ++ ([(n : Int)] : List Int)).length, iv⟩ : Hd)).length U by rw [OS.len' h5]) (agC rfl (agC rfl (agC rfl (agC rfl (agC rfl agN))))))))), rfl, (by first | assumption | omega | (simp at *; omega)), (by first | exact kD | (rw [List.length_set]; exact kD)), (by exact fun r hr => by first | exact i3 r hr | (rw [dq (by omega), if_neg (by omega)]; exact i3 r hr)), (by exact fun r hr => by first | exact ja r hr | (rw [dq (by omega), if_neg (by omega)]; exact ja r hr)), (by first | (rw [dq (by omega), if_pos rfl]; exact up_yes hI (hbit.1 (by assumption))) | exact up_no hI (fun h => absurd (hbit.2 h) (by assumption))), (by first | assumption | omega | (simp at *; omega))⟩
    omega
   have j4 := hW
   try simp only [BS] at j4
   have hbit := eK (s := d1.getD k default) (k := n / 64) (b := n % 64) (by assumption) (by omega)
   rw [show 64 * (n / 64) + n % 64 = n by omega] at hbit
   refine wR 1 [] 114 115 [17] [(17, (iI ((n : Int) + 1)))] (vA (vi (n := (n : Int) + 1) (by first | (dsimp only; omega) | omega)) trivial) rfl fun _ => ?_
   obtain ⟨kp, h9, kC⟩ := SF.shut0 kr fR c7 (q := 2) (m := 7) (by decide) rfl rfl d2
   have h9 : HS _ _ _ [_, _, kp, _, _, _, _, []] _ := h9
   have nC := FAM.len kC
   refine kI _ _ _ ?_ ⟨ci, d1, a1, cc, n + 1, T, U, b3, av, V, ad, co, kp, _, (hX), (HS.sub h9 (List.sublist_append_left _ _)), b2, bb, e3, kC, (agC rfl (agC rfl (agC rfl (agC rfl (agC rfl (agC rfl (agC rfl (agC rfl (agC rfl agN))))))))), rfl, (by first | assumption | omega | (simp at *; omega)), (by first | exact kD | (rw [List.length_set]; exact kD)), (by exact fun r hr => by first | exact i3 r hr | (rw [dq (by omega), if_neg (by omega)]; exact i3 r hr)), (by exact fun r hr => by first | exact ja r hr | (rw [dq (by omega), if_neg (by omega)]; exact ja r hr)), (by first | (rw [dq (by omega), if_pos rfl]; exact up_yes hI (hbit.1 (by assumption))) | exact up_no hI (fun h => absurd (hbit.2 h) (by assumption))), (by first | assumption | omega | (simp at *; omega))⟩
   omega
  have j3 := hV
  try simp only [BS] at j3
  refine wR 1 [] 107 107 [140] [(107, (iI ((k : Int) + 1)))] (vA (vi (n := (k : Int) + 1) (by first | (dsimp only; omega) | omega)) trivial) rfl fun _ => ?_
  refine l3 _ _ _ ?_ ⟨ci, d1, a1, cc, k + 1, T, U, b3, av, V, ad, co, e5, _, (fT (kt) hX), e1, b2, bb, e3, g3, (agC rfl (agC rfl (agC rfl (agC rfl (agC rfl (agC rfl agN)))))), rfl, (by exact hQ), (by first | assumption | omega | (simp at *; omega)), (by exact fin_row hQ (by omega) vF (by omega) i3 hI), (by exact fun r hr => ja r (by omega)), (by first | assumption | omega | (simp at *; omega))⟩
  omega
 have j2 := hS
 try simp only [BS] at j2
 refine wR 1 [] 2 2 [141] [(2, (.slice a3 oh.length a4))] trivial rfl fun _ => ?_
 obtain ⟨nW, ku, ib, lS⟩ := SF.freeze e2 kE (q := 6) rfl
 have ib : HS _ _ _ [_, b0, ds, [(J, .cells [(.slice a8 hG.length bk)] none false)], _, c4, _] _ := ib
 replace ea := ea.mono ku
 obtain ⟨nX, kv, ih, lY, nP⟩ := OS.frz ea ib (i := 5) rfl
 have ih : HS _ _ _ [_, _, _, _, _, [], _] _ := ih
 have hf := SR.rows lY (FAM.len e2) (fun i hi => SR.mono kv (lS i hi))
 have nT := SR.len' hf
 have nr := SR.norm hf
 refine az ⟨.inr rfl, _, rfl, a3, a4, ol, _, (fT (fT (fT (fT (fT (fT (kw) h0) hw) hz) kt) ku) kv), (HS.forget ih), (Eq.trans (b := Value.slice a3 oh.length a4) rfl (by rw [SR.len' hf])), (SR.norm hf), (by first | exact fun h => absurd (h.symm.trans hv) (by decide) | exact fun _ => inf_of l6 (by omega) ln), (by first | exact fun _ => rfl | exact fun h => absurd (hv.symm.trans h) (by decide))⟩
end Go.Proofs.YtknafdcgpaejlaaDoor.nb
