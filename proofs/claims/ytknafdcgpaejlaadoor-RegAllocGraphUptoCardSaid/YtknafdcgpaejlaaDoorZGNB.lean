/-
 Interference: the allocator, by a symbolic run. No condition but bounds on lengths.
-/
import Derived.Test.YtknafdcgpaejlaaDoorZGNA
noncomputable section
namespace Go.Proofs.YtknafdcgpaejlaaDoor.nb
open Go.R
set_option maxRecDepth 10000
set_option linter.unusedVariables false
set_option linter.unusedSimpArgs false
variable (ex : FuncId) {F : Fz} {H : Heap} {R : List Fp}
open m1 m2 m3 m4 m5 m6 ma ml mb mc md mf mg mh mi mj na
abbrev jl (c : VFnT) (b i : Nat) : VInT := (bQ c b).ins.getD i default
def eok (c : VFnT) (b i : Nat) (a x : Int) : Prop := x ≠ a ∧ ¬ ((jl c b i).i.op = 10 ∧ x = (jl c b i).i.b)
def edg (c : VFnT) (b i a x : Nat) : Prop := (a : Int) ∈ ab (jl c b i) ∧ ptS c b (i + 1) x ∧ eok c b i a x
def E0 (c : VFnT) (k a x : Nat) : Prop := ∃ b i, b < k ∧ i < (bQ c b).ins.length ∧ edg c b i a x
def E1 (c : VFnT) (k n a x : Nat) : Prop := E0 c k a x ∨ ∃ i, i < n ∧ edg c k i a x
def E2 (c : VFnT) (k n q a x : Nat) : Prop := E1 c k n a x ∨ ((a : Int) ∈ (ab (jl c k n)).take q ∧ ptS c k (n + 1) x ∧ eok c k n a x)
def E3 (c : VFnT) (k n q : Nat) (l : List Int) (p a x : Nat) : Prop := E2 c k n q a x ∨ ((a : Int) = (ab (jl c k n)).getD q 0 ∧ (x : Int) ∈ l.take p ∧ eok c k n a x)
def intE (c : VFnT) (a x : Nat) : Prop := E0 c c.blocks.length a x
def Sy (R : Nat → Nat → Prop) (r y : Nat) : Prop := R r y ∨ R y r
theorem Sy.iff {R R' : Nat → Nat → Prop} (h : ∀ a x, R a x ↔ R' a x) (r y : Nat) : Sy R r y ↔ Sy R' r y := or_congr (h r y) (h y r)
structure RwF (c : VFnT) (rl : List (List U64)) (R : Nat → Nat → Prop) : Prop where
 len : rl.length = c.regs.toNat
 row : ∀ r, r < c.regs.toNat → (rl.getD r default).length = wds c
 bit : ∀ r, r < c.regs.toNat → ∀ y, bI rl r y ↔ Sy R r y
theorem RwF.iff {c : VFnT} {rl : List (List U64)} {R R' : Nat → Nat → Prop} (h : RwF c rl R) (k : ∀ a x, R a x ↔ R' a x) : RwF c rl R' := ⟨h.len, h.row, fun r hr y => (h.bit r hr y).trans (Sy.iff k r y)⟩
theorem rw_zero {c : VFnT} {rl : List (List U64)} {k : Nat} (hl : rl.length = c.regs.toNat) (hk : c.regs.toNat ≤ k) (h : ∀ j, j < k → rl.getD j default = List.replicate (wds c) ⟨0⟩) : RwF c rl (E0 c 0) := by
 refine ⟨hl, fun r hr => by rw [h r (by omega), a0P], fun r hr y => ?_⟩
 unfold bI
 rw [h r (by omega), bit_rep]
 constructor
 ·
  intro h; cases h
 rintro (⟨b, _, h, _⟩ | ⟨b, _, h, _⟩) <;> exact absurd h (a1M _)
theorem rw_e0 {c : VFnT} {rl : List (List U64)} {k n : Nat} (h : RwF c rl (E1 c k n)) (hn : (bQ c k).ins.length = n) : RwF c rl (E0 c (k + 1)) := h.iff fun a x => by
 unfold E1 E0
 constructor
 ·
  rintro (⟨b, i, A, z⟩ | ⟨i, A, z⟩)
  ·
   exact ⟨b, i, by omega, z⟩
  exact ⟨k, i, a1F _, by omega, z⟩
 rintro ⟨b, i, A, z, E⟩
 rcases a0k b k with hb | hb
 ·
  exact .inl ⟨b, i, hb, z, E⟩
 have : b = k := by omega
 subst this; exact .inr ⟨i, by omega, E⟩
theorem rw_e1 {c : VFnT} {rl : List (List U64)} {k : Nat} (h : RwF c rl (E0 c k)) : RwF c rl (E1 c k 0) := h.iff fun a x => ⟨.inl, fun h => h.elim id fun ⟨i, h, _⟩ => absurd h (a1M _)⟩
theorem rw_e1s {c : VFnT} {rl : List (List U64)} {k n q : Nat} (h : RwF c rl (E2 c k n q)) (hq : (ab (jl c k n)).length ≤ q) : RwF c rl (E1 c k (n + 1)) := h.iff fun a x => by
 unfold E2 E1
 rw [a0h hq]
 constructor
 ·
  rintro ((h | ⟨i, A, z⟩) | h)
  ·
   exact .inl h
  ·
   exact .inr ⟨i, by omega, z⟩
  exact .inr ⟨n, a1F _, h⟩
 rintro (h | ⟨i, A, z⟩)
 ·
  exact .inl (.inl h)
 rcases a0k i n with hi | hi
 ·
  exact .inl (.inr ⟨i, hi, z⟩)
 have : i = n := by omega
 subst this; exact .inr z
theorem rw_e2 {c : VFnT} {rl : List (List U64)} {k n : Nat} (h : RwF c rl (E1 c k n)) : RwF c rl (E2 c k n 0) := h.iff fun a x => ⟨.inl, fun h => h.elim id fun h => by simp at h⟩
theorem rw_e2s {c : VFnT} {rl : List (List U64)} {k n q p : Nat} {l : List Int} (hl : Lst l (ptS c k (n + 1))) (h : RwF c rl (E3 c k n q l p)) (hq : q < (ab (jl c k n)).length) (hp : l.length ≤ p) : RwF c rl (E2 c k n (q + 1)) := h.iff fun a x => by
 unfold E3 E2
 rw [a0h hp, bo hq (d := 0), a09, a0e, hl.mem]
 have e : ((x : Int)).toNat = x := by omega
 rw [e]
 constructor
 ·
  rintro ((h | ⟨z, A, E⟩) | ⟨z, ⟨_, A⟩, E⟩)
  ·
   exact .inl h
  ·
   exact .inr ⟨.inl z, A, E⟩
  exact .inr ⟨.inr z, A, E⟩
 rintro (h | ⟨z | z, A, E⟩)
 ·
  exact .inl (.inl h)
 ·
  exact .inl (.inr ⟨z, A, E⟩)
 exact .inr ⟨z, ⟨by omega, A⟩, E⟩
theorem rw_e3 {c : VFnT} {rl : List (List U64)} {k n q : Nat} {l : List Int} (h : RwF c rl (E2 c k n q)) : RwF c rl (E3 c k n q l 0) := h.iff fun a x => ⟨.inl, fun h => h.elim id fun h => by simp at h⟩
theorem gB {c : VFnT} {k n q p : Nat} {l : List Int} (hp : p < l.length) (a x : Nat) : E3 c k n q l (p + 1) a x ↔ (E3 c k n q l p a x ∨ ((a : Int) = (ab (jl c k n)).getD q 0 ∧ (x : Int) = l.getD p 0 ∧ eok c k n a x)) := by
 unfold E3
 rw [bo hp (d := 0), a09, a0e]
 constructor
 ·
  rintro (h | ⟨A, z | z, E⟩)
  ·
   exact .inl (.inl h)
  ·
   exact .inl (.inr ⟨A, z, E⟩)
  exact .inr ⟨A, z, E⟩
 rintro ((h | ⟨A, z, E⟩) | ⟨A, z, E⟩)
 ·
  exact .inl h
 ·
  exact .inr ⟨A, .inl z, E⟩
 exact .inr ⟨A, .inr z, E⟩
theorem rw_no {c : VFnT} {rl : List (List U64)} {k n q p : Nat} {l : List Int} (hp : p < l.length) (h : RwF c rl (E3 c k n q l p)) (hn : ¬ eok c k n ((ab (jl c k n)).getD q 0) (l.getD p 0)) : RwF c rl (E3 c k n q l (p + 1)) := h.iff fun a x => by
 rw [gB hp]
 exact ⟨.inl, fun h => h.elim id fun ⟨A, E, z⟩ => absurd (by rw [A, E] at z; exact z) hn⟩
structure Con (rl rl' : List (List U64)) (a x : Int) : Prop where
 len : rl'.length = rl.length
 row : ∀ r, (rl'.getD r default).length = (rl.getD r default).length
 bit : ∀ r y, bI rl' r y ↔ (bI rl r y ∨ (r = a.toNat ∧ y = x.toNat) ∨ (r = x.toNat ∧ y = a.toNat))
theorem eok_of {c : VFnT} {k n : Nat} {a x : Int} (h : eok c k n a x) (ha : 0 ≤ a) (hx : 0 ≤ x) : eok c k n ((a.toNat : Nat) : Int) ((x.toNat : Nat) : Int) := by rwa [a11 ha, a11 hx]
theorem rw_yes {c : VFnT} {rl rl' : List (List U64)} {k n q p : Nat} {l : List Int} (hp : p < l.length) (h : RwF c rl (E3 c k n q l p)) (hc : Con rl rl' ((ab (jl c k n)).getD q 0) (l.getD p 0)) (ha : 0 ≤ (ab (jl c k n)).getD q 0) (hx : 0 ≤ l.getD p 0) (hn : eok c k n ((ab (jl c k n)).getD q 0) (l.getD p 0)) : RwF c rl' (E3 c k n q l (p + 1)) := by
 refine ⟨hc.len.trans h.len, fun r hr => (hc.row r).trans (h.row r hr), fun r hr y => ?_⟩
 rw [hc.bit, h.bit r hr]
 unfold Sy
 rw [gB hp, gB hp]
 constructor
 ·
  rintro ((z | z) | ⟨z, A⟩ | ⟨z, A⟩)
  ·
   exact .inl (.inl z)
  ·
   exact .inr (.inl z)
  ·
   subst z A; exact .inl (.inr ⟨by omega, by omega, eok_of hn ha hx⟩)
  subst z A; exact .inr (.inr ⟨by omega, by omega, eok_of hn ha hx⟩)
 rintro ((z | ⟨z, A, _⟩) | (z | ⟨z, A, _⟩))
 ·
  exact .inl (.inl z)
 ·
  exact .inr (.inl ⟨by omega, by omega⟩)
 ·
  exact .inl (.inr z)
 exact .inr (.inr ⟨by omega, by omega⟩)
theorem con_two {rl : List (List U64)} {a b : Int} {z A : List U64} (ha : a.toNat < rl.length) (hb : b.toNat < rl.length) (hab : a.toNat ≠ b.toNat) (Z : z.length = (rl.getD a.toNat default).length) (V : A.length = ((rl.set a.toNat z).getD b.toNat default).length)
  (Y : ∀ i, aF z i = (aF (rl.getD a.toNat default) i || decide (i = b.toNat))) (U : ∀ i, aF A i = (aF ((rl.set a.toNat z).getD b.toNat default) i || decide (i = a.toNat))) : Con rl ((rl.set a.toNat z).set b.toNat A) a b := by
 have T : ∀ r, (rl.set a.toNat z).getD r default = if a.toNat = r then z else rl.getD r default := fun r => by
  rw [d8]
  by_cases h : a.toNat = r
  ·
   subst h; rw [if_pos ⟨rfl, ha⟩, if_pos rfl]
  rw [if_neg (fun e => h e.1), if_neg h]
 rw [T, if_neg hab] at V U
 have e : ∀ r, ((rl.set a.toNat z).set b.toNat A).getD r default = if b.toNat = r then A else if a.toNat = r then z else rl.getD r default := fun r => by
  rw [d8, T]
  by_cases h : b.toNat = r
  ·
   subst h; rw [if_pos ⟨rfl, by rw [a0i]; exact hb⟩, if_pos rfl]
  rw [if_neg (fun e => h e.1), if_neg h]
 refine ⟨by rw [a0i, a0i], fun r => ?_, fun r y => ?_⟩
 ·
  rw [e]
  split
  ·
   rename_i h; subst h; exact V
  split
  ·
   rename_i h; subst h; exact Z
  rfl
 unfold bI
 rw [e]
 by_cases h : b.toNat = r
 ·
  subst h
  rw [if_pos rfl, U, a0O, decide_eq_true_eq]
  constructor
  ·
   rintro (h | h)
   ·
    exact .inl h
   exact .inr (.inr ⟨rfl, h⟩)
  rintro (h | ⟨h, _⟩ | ⟨_, h⟩)
  ·
   exact .inl h
  ·
   exact absurd h.symm hab
  exact .inr h
 rw [if_neg h]
 by_cases E : a.toNat = r
 ·
  subst E
  rw [if_pos rfl, Y, a0O, decide_eq_true_eq]
  constructor
  ·
   rintro (h | h)
   ·
    exact .inl h
   exact .inr (.inl ⟨rfl, h⟩)
  rintro (h | ⟨_, h⟩ | ⟨h, _⟩)
  ·
   exact .inl h
  ·
   exact .inr h
  exact absurd h hab
 rw [if_neg E]
 exact ⟨.inl, fun J => J.elim id fun J => by rcases J with ⟨N, _⟩ | ⟨N, _⟩; exact absurd N.symm E; exact absurd N.symm h⟩
def upS (rl : List (List U64)) (k n y : Nat) : Prop := bI rl k y ∧ y < n
theorem up_zero {rl : List (List U64)} {k : Nat} : Lst [] (upS rl k 0) := Lst.nil fun r h => a1M _ h.2
theorem Lst.snoc {l : List Int} {S : Nat → Prop} {n : Nat} (h : Lst l S) (hb : ∀ y, S y → y < n) : Lst (l ++ [(n : Int)]) (fun y => S y ∨ y = n) := by
 refine ⟨a20.2 ⟨h.asc, List.pairwise_singleton _ _, fun x hx y hy => ?_⟩, fun x => ?_⟩
 ·
  rw [a0e] at hy; subst hy
  have := (h.mem x).1 hx
  have := hb _ this.2
  omega
 rw [a09, a0e, h.mem]
 constructor
 ·
  rintro (z | z)
  ·
   exact ⟨z.1, .inl z.2⟩
  exact ⟨by omega, .inr (by omega)⟩
 rintro ⟨z, A | A⟩
 ·
  exact .inl ⟨z, A⟩
 exact .inr (by omega)
theorem up_yes {rl : List (List U64)} {k n : Nat} {l : List Int} (h : Lst l (upS rl k n)) (hb : bI rl k n) : Lst (l ++ [(n : Int)]) (upS rl k (n + 1)) := Lst.ext (Lst.snoc h fun y hy => hy.2) fun y => by
 unfold upS
 constructor
 ·
  rintro (⟨z, E⟩ | rfl)
  ·
   exact ⟨z, by omega⟩
  exact ⟨hb, a1F _⟩
 rintro ⟨z, E⟩
 rcases a0k y n with A | A
 ·
  exact .inl ⟨z, A⟩
 exact .inr (by omega)
theorem up_no {rl : List (List U64)} {k n : Nat} {l : List Int} (h : Lst l (upS rl k n)) (hb : ¬ bI rl k n) : Lst l (upS rl k (n + 1)) := Lst.ext h fun y => by
 unfold upS
 constructor
 ·
  rintro ⟨z, E⟩; exact ⟨z, by omega⟩
 rintro ⟨z, E⟩
 refine ⟨z, ?_⟩
 rcases a0k y n with A | A
 ·
  exact A
 have : y = n := by omega
 subst this; exact absurd z hb
theorem rw_last {c : VFnT} {rl : List (List U64)} {k : Nat} (h : RwF c rl (E0 c k)) (hk : k = c.blocks.length) : RwF c rl (intE c) := by subst hk; exact h
theorem row_rep {n r : Nat} : cN (List.replicate n ([] : List Int)) r = [] := by
 unfold cN
 rw [a01, a1i]
 split <;> rfl
structure InF (c : VFnT) (g : List (List Int)) : Prop where
 len : g.length = c.regs.toNat
 row : ∀ r, r < c.regs.toNat → Lst (cN g r) (Sy (intE c) r)
theorem inf_of {c : VFnT} {g : List (List Int)} {k : Nat} (hl : g.length = c.regs.toNat) (hk : c.regs.toNat ≤ k) (h : ∀ r, r < k → Lst (cN g r) (Sy (intE c) r)) : InF c g := ⟨hl, fun r hr => h r (by omega)⟩
theorem fin_row {c : VFnT} {rl : List (List U64)} {g : List (List Int)} {k n : Nat} (h : RwF c rl (intE c)) (hk : k < c.regs.toNat) (v : VF c) (hn : c.regs.toNat ≤ n) (hg : ∀ r, r < k → Lst (cN g r) (Sy (intE c) r)) (hu : Lst (cN g k) (upS rl k n)) : ∀ r, r < k + 1 → Lst (cN g r) (Sy (intE c) r) := fun r hr => by
 rcases a0k r k with z | z
 ·
  exact hg r z
 have : r = k := by omega
 subst this
 refine Lst.ext hu fun y => ?_
 unfold upS
 rw [h.bit r hk]
 refine ⟨fun h => h.1, fun hy => ⟨hy, ?_⟩⟩
 have hlt : ∀ a x, intE c a x → (a : Int) < c.regs ∧ (x : Int) < c.regs := fun a x ⟨b, i, z, A, E, J, _⟩ => ⟨((bR (v.ins b z i A)).2.1 _ E).2, pt_lt v z J⟩
 rcases hy with hy | hy
 ·
  have := hlt _ _ hy; omega
 have := hlt _ _ hy; omega
set_option maxHeartbeats 4000000 in
theorem inter_c {cl : Option Addr} {co : Nat} (c : VFnT) (hs : HS (.of H []) F H [] R) (o4 : in64 c.params) (o5 : in64 c.regs) (dk : SR F (.slice cl c.blocks.length co) c.blocks) (hT : TB 37 tabC F) (hins : ∀ j, (c.blocks.getD j default).ins.length ≤ 1073741822) : kKt ex 20 [(.agg ⟨[(iI c.params), (iI c.regs), (.slice cl c.blocks.length co)]⟩)] H fun v H' => ∃ (ag : Option Addr) (kg : Nat) (g : List (List Int)) (F' : Fz), Fz.le F F' ∧ HS (.of H []) F' H' [] R ∧ v = .slice ag g.length kg ∧ SR F' (.slice ag g.length kg) g ∧ (cx c = true → InF c g) ∧ (cx c = false → g = []) := by
 refine aI Tryd.func20 rfl rfl (ah 1 rfl (aa (aH (bw hs rfl rfl) rfl rfl ?_)))
 rintro _ H2 _ ⟨b1, rfl, (lZ : HS _ _ _ [[(b1, .cells [(iI c.params), (iI c.regs), (.slice cl c.blocks.length co)] none false)]] _), _⟩
 let lh : Value := (.agg ⟨[(iI c.params), (iI c.regs), (.slice cl c.blocks.length co)]⟩)
 refine wa (.slice none 0 0) rfl rfl rfl (ae 3 rfl (aa (wUo 1 0 [(0, .o lh)] 18 18 [] [(18, lh)] (qn 24 0 3 (HS.hc lZ (i := 0) rfl) rfl rfl rfl rfl) rfl fun _ => az (ap rfl rfl rfl) rfl rfl (m3.valid_c ex c (HS.call lZ) (by omega) (by omega) dk hT (fun j => a0b (hins j) (by omega))) ?_)))
 rintro _ H4 ⟨r4, F4, kV, ih, rfl, rfl⟩
 replace ih : HS _ _ _ [_] _ := HS.back lZ rfl ih
 replace hT := hT.mono kV
 replace dk := dk.mono kV
 refine wTo 1 2 [] 20 20 [] [(20, (.bool (!(cx c))))] rfl fun _ => ae 1 rfl (am 1 2 (v := (!(cx c))) rfl rfl rfl rfl (fun lD => ?_) (fun lD => ?_))
 ·
  have c6 := lD
  try simp only [BS] at c6
  have hv := c6
  refine wT 1 [] 2 2 [] [(2, (.slice none 0 0))] rfl fun _ => ak ⟨.inr rfl, _, rfl, none, 0, ([] : List (List Int)), _, (kV), (HS.forget ih), rfl, (SR.nil : SR F4 (.slice none 0 0) ([] : List (List Int))), (fun h => absurd (h.symm.trans hv) (by decide)), (fun _ => rfl)⟩
 have c6 := lD
 try simp only [BS] at c6
 have hv := c6
 have vF := iA hv
 have hnb := vF.nb
 have hrg := vF.regs
 have hwd := wd_le vF.regs
 have o8 : Int.tdiv (c.regs + 63) 64 = (c.regs + 63) / 64 := a15 (by omega)
 have o9 : (List.replicate c.regs.toNat (default : Hd)).length = c.regs.toNat := a0P
 refine aa (wUo 2 0 [(1, .o (iI c.regs))] 21 22 [] [(22, (iI c.regs))] (ql 3 1 (HS.hc ih (i := 0) rfl) rfl rfl) rfl fun _ => aH (dg (default : Hd) ih rfl rfl rfl rfl rfl rfl rfl rfl rfl rfl (by omega) (by omega)) rfl rfl ?_)
 rintro _ pz p9 ⟨a9, k9, rfl, n1, (nu : HS _ _ _ [_, p9] _), _⟩
 have j2 := HS.snoc nu
 have j2 : HS _ _ _ [_, _, []] _ := j2
 have lK : SF F4 (List.replicate c.regs.toNat (default : Hd)) (List.replicate c.regs.toNat ([] : List U64)) [] := SF.rep _
 have oY := FAM.len lK
 refine aH (bp j2 rfl) rfl rfl ?_
 rintro _ pA _ ⟨J, rfl, (nv : HS _ _ _ [_, _, _, [(J, .cells [(.slice none 0 0)] none false)]] _), _⟩
 refine aL (aE (q := 3) nv rfl rfl rfl rfl rfl rfl rfl rfl rfl) rfl ?_
 rintro _ pB _ ⟨(lY : HS _ _ _ [_, _, _, [(J, .cells [(.slice a9 (List.replicate c.regs.toNat (default : Hd)).length k9)] none false)]] _), _⟩
 let g4 : Fp := [(b1, .cells [(iI c.params), (iI c.regs), (.slice cl c.blocks.length co)] none false)]
 refine ae 3 rfl (wU 2 [(0, .o (.slice a9 (List.replicate c.regs.toNat (default : Hd)).length k9))] 24 26 [] [(25, (iI ((List.replicate c.regs.toNat (default : Hd)).length : Int))), (26, (iI 0))] (ql 85 0 (HS.hc lY (i := 3) rfl) rfl rfl) rfl fun _ => aj (fun (mm : Nat) f H' => ∃ (rh : List Hd) (rl : List (List U64)) (k : Nat) (ay : Fp) (N : Option Addr) (T : Nat) (ds : Fp) (F' : Fz), Fz.le F4 F' ∧ HS (Base.of H []) F' H' [g4, ay, ds, [(J, .cells [(.slice N rh.length T)] none false)]] R ∧ OS F' (.slice N rh.length T) rh ay ∧ SF F' rh rl ds ∧ aD f [(1, (.pointer (some ⟨b1, 0, none⟩))), (3, (.pointer (some ⟨J, 0, none⟩))), (25, (iI ((List.replicate c.regs.toNat (default : Hd)).length : Int))), (26, (iI (k : Int)))] ∧ mm = c.regs.toNat - k ∧ (rl.length = c.regs.toNat) ∧ (k ≤ c.regs.toNat) ∧ (∀ j, j < k → rl.getD j default = List.replicate (wds c) ⟨0⟩)) _ ⟨List.replicate c.regs.toNat (default : Hd), List.replicate c.regs.toNat ([] : List U64), 0, p9, a9, k9, [], _, fR, lY, n1, lK, ⟨rfl, rfl, rfl, rfl, trivial⟩, rfl, (by simp), (by omega), (by intro j hj; omega)⟩ ?_)
 rintro pj pQ pC ⟨rh, rl, k, ay, N, T, ds, nS, hK, e5, b6, d4, lL, rfl, mM, p0, mQ⟩ nD
 refine au _ lL (fun _ => ?_)
 clear lL
 replace hT := hT.mono hK
 replace dk := dk.mono hK
 have nM := FAM.len d4
 refine ah 1 rfl (wT 2 [] 27 27 [] [(27, (.bool (decide ((k : Int) < ((List.replicate c.regs.toNat (default : Hd)).length : Int)))))] rfl fun _ => am 4 5 (v := (decide ((k : Int) < ((List.replicate c.regs.toNat (default : Hd)).length : Int)))) rfl rfl rfl rfl (fun i3 => ?_) (fun i3 => ?_))
 ·
  have lv := i3
  try simp only [BS] at lv
  refine wT 1 [] 28 28 [4] [(4, (iI (k : Int)))] rfl fun _ => aY rfl (aB (v := (.slice N rh.length T)) (id := .l J) (bt (i := 0) rfl rfl (HS.hc e5.log0 (i := 3) rfl) rfl rfl) rfl rfl (bG rfl) trivial (fm (iI (k : Int)) rfl rfl rfl (wfv (v := (.pointer (some ⟨b1, 1, none⟩))) (dG rfl rfl) (aB (v := (iI c.regs)) (id := .l b1) (bt (i := 1) rfl rfl (HS.hc e5.log0 (i := 0) rfl) rfl rfl) rfl rfl (bG rfl) (kb rfl) ?_))))
  refine wfv (v := (iI (c.regs + 63))) (ap_add rfl rfl (w_i64 (n := c.regs + 63) (by omega))) ?_
  have pq : in64 (c.regs + 63) → in64 (Int.tdiv (c.regs + 63) 64) := fun h => vq h (by decide)
  refine wfv (v := (iI (Int.tdiv (c.regs + 63) 64))) (ap_div rfl rfl (by decide) (w_tdiv (by omega) (by decide))) (cg (id := .x []) (dg (⟨0⟩ : U64) e5.log0 rfl rfl rfl rfl rfl rfl rfl rfl rfl ⟨rfl, by decide⟩ (by omega) (by omega)) rfl rfl (by rintro _ _ mR ⟨kl, lb, rfl, lT, _, hwr⟩; exact cz rfl rfl (Wr.did hwr)) (⟨.inl rfl, ⟨.inl rfl, ⟨.inl rfl, ⟨.inl rfl, ⟨.inr trivial, ⟨.inr a0f, trivial⟩⟩⟩⟩⟩⟩) ?_)
  rintro _ nW mR ⟨kl, lb, rfl, lT, e6, _⟩ nI mA
  replace e6 := HS.lg e6 e5 mA
  generalize ({ nW with log := nI } : Heap) = oM at e6 ⊢
  have e6 : HS _ _ _ [_, ay, ds, [(J, .cells [(.slice N rh.length T)] none false)], mR] _ := e6
  refine wfv (v := (.pointer (some ⟨sB (.slice N rh.length T), sO (.slice N rh.length T) + k * Rp.sz Hd, none⟩))) (bd (α := Hd) (j := (k : Int)) rfl rfl rfl rfl (OS.sv b6 e6.log0 (i := 1) rfl) (by omega) (by omega)) ?_
  obtain ⟨ng, lF, kc, j0, nl⟩ := SF.open d4 e6 (q := 2) (i := k) rfl (by omega)
  have kc : HS _ _ _ [_, _, ng, _, _, lF] _ := kc
  have j0 : OS nS (.slice (rh.getD k default).a (rh.getD k default).n (rh.getD k default).k) (rl.getD k default) lF := j0
  have pg := OS.nlen j0
  obtain ⟨lI, h4, lM⟩ := SF.shutN (⟨kl, (List.replicate (Int.tdiv (c.regs + 63) 64).toNat (⟨0⟩ : U64)).length, lb⟩ : Hd) nl fR kc (q := 2) (m := 4) (by decide) rfl rfl lT
  have h4 : HS _ _ _ [_, _, lI, _, [], _] _ := h4
  have oZ := FAM.len lM
  refine iu (id := .x (ay.map Prod.fst)) (bY (α := Hd) (j := k) (off := 0) (q := 1) (⟨kl, (List.replicate (Int.tdiv (c.regs + 63) 64).toNat (⟨0⟩ : U64)).length, lb⟩ : Hd) b6 h4.log0 rfl rfl rfl rfl rfl rfl rfl rfl (aK (x := default) (by omega)) rfl (by rintro cs rfl; exact ⟨a04 rfl, rfl⟩)) rfl (by rintro _ _ mr ⟨j1, _, hwr⟩; exact cz rfl rfl (Wr.did hwr)) (kb rfl) ?_
  rintro _ nX mr ⟨j1, f4, _⟩ nJ mB
  replace f4 := HS.lg f4 h4 mB
  generalize ({ nX with log := nJ } : Heap) = oN at f4 ⊢
  have f4 : HS _ _ _ [_, mr, _, _, _, _] _ := f4
  have ou := OS.len' j1
  refine cu (ah 2 rfl (wU 1 [] 26 26 [37] [(26, (iI ((k : Int) + 1)))] (vi (n := (k : Int) + 1) (by omega)) rfl fun _ => nD _ _ _ ?_ ⟨rh.set k (⟨kl, (List.replicate (Int.tdiv (c.regs + 63) 64).toNat (⟨0⟩ : U64)).length, lb⟩ : Hd), rl.set k (List.replicate (Int.tdiv (c.regs + 63) 64).toNat (⟨0⟩ : U64)), k + 1, mr, N, T, lI, _, (hK), (by simpa only [a0i] using (HS.sub f4 (a05 _ _))), (OS.norm j1), lM, ⟨rfl, rfl, rfl, rfl, trivial⟩, rfl, (by rw [a0i]; exact mM), (by omega), (zset mQ (by omega))⟩))
  omega
 have lv := i3
 try simp only [BS] at lv
 refine wT 2 [] 38 38 [5] [(5, (.func (.func 50) #[] #[(.pointer (some ⟨J, 0, none⟩))]))] rfl fun _ => ?_
 have ns := rw_zero (c := c) mM (by omega) mQ
 refine aa (wUo 1 0 [(0, .o lh)] 39 39 [] [(39, lh)] (qn 24 0 3 (HS.hc e5 (i := 0) rfl) rfl rfl rfl rfl) rfl fun _ => az (ap rfl rfl rfl) rfl rfl (na.points_c ex c (HS.call e5) (by omega) (by omega) dk hT (by omega) (by omega)) ?_)
 rintro _ pD ⟨fd, fi, z, g0, nT, hb, h5, rfl, b3, pZ⟩
 replace h5 : HS _ _ _ [_, ay, ds, [(J, .cells [(.slice N rh.length T)] none false)], g0] _ := HS.back e5 rfl h5
 replace b6 := b6.mono hb
 replace d4 := SF.mono hb d4
 refine wa (.slice fd z.length fi) rfl rfl rfl (ae 3 rfl ?_)
 have ps := (by assumption : PsF c _)
 have hpsl := ps.len
 refine wU 2 [(1, .o (.slice cl c.blocks.length co))] 41 44 [] [(42, (.slice cl c.blocks.length co)), (43, (iI (c.blocks.length : Int))), (44, (iI 0))] (ql 22 2 (HS.hc h5 (i := 0) rfl) rfl rfl) rfl fun _ => aj (fun (mm : Nat) f H' => ∃ (c4 : List Hd) (il : List (List U64)) (k : Nat) (a0 : Fp) (an : Option Addr) (ar : Nat) (c3 : Fp) (F' : Fz), Fz.le nT F' ∧ HS (Base.of H []) F' H' [g4, a0, c3, [(J, .cells [(.slice an c4.length ar)] none false)], g0] R ∧ OS F' (.slice an c4.length ar) c4 a0 ∧ SF F' c4 il c3 ∧ aD f [(1, (.pointer (some ⟨b1, 0, none⟩))), (3, (.pointer (some ⟨J, 0, none⟩))), (5, (.func (.func 50) #[] #[(.pointer (some ⟨J, 0, none⟩))])), (6, (.slice fd z.length fi)), (42, (.slice cl c.blocks.length co)), (43, (iI (c.blocks.length : Int))), (44, (iI (k : Int)))] ∧ mm = c.blocks.length - k ∧ (RwF c il (E0 c k)) ∧ (k ≤ c.blocks.length)) _ ⟨rh, rl, 0, ay, N, T, ds, _, fR, h5, b6, d4, ⟨rfl, rfl, rfl, rfl, rfl, rfl, rfl, trivial⟩, rfl, (ns), (by omega)⟩ ?_
 rintro pk pR pE ⟨c4, il, k, a0, an, ar, c3, ln, hf, ht, f9, hu, lN, rfl, ms, hk⟩ nE
 refine au _ lN (fun _ => ?_)
 clear lN
 replace hT := (hT.mono hb).mono hf
 replace dk := (dk.mono hb).mono hf
 replace b3 := b3.mono hf
 have nN := FAM.len hu
 have pb := ms.len
 refine ah 1 rfl (wT 2 [] 45 45 [] [(45, (.bool (decide ((k : Int) < (c.blocks.length : Int)))))] rfl fun _ => am 4 5 (v := (decide ((k : Int) < (c.blocks.length : Int)))) rfl rfl rfl rfl (fun ja => ?_) (fun ja => ?_))
 ·
  have lw := ja
  try simp only [BS] at lw
  have hbn : k < c.blocks.length := by omega
  have hbl := hins k
  have px : PtX c k (z.getD k default) := ps.at_ k hbn
  have hpxl : (z.getD k default).length = (c.blocks.getD k default).ins.length + 2 := px.len
  have oy : (z.getD k []).length = (c.blocks.getD k default).ins.length + 2 := px.len
  refine aa ?_
  obtain ⟨a3, l1⟩ := Sv.view (SR.sv dk ht)
  obtain ⟨od, oe, og, oi, g9⟩ := BlkT.fx (l1 k)
  let mW : Value := (.agg ⟨[(.slice (cA (a3 k) 0) (c.blocks.getD k default).ins.length (cK (a3 k) 0)), (iI (c.blocks.getD k default).fin), (iI (c.blocks.getD k default).reg), (iI (c.blocks.getD k default).tgt), (iI (c.blocks.getD k default).els)]⟩)
  refine wRo 3 0 [(2, .o mW)] 46 48 [] [(46, (iI (k : Int))), (48, mW)] (vA (Sv.ix (j := (k : Int)) (SR.sv dk ht) (by omega) (by omega)) (vA (qn 48 0 5 (BlkT.vw (l1 k) (by omega)) rfl rfl rfl rfl) trivial)) rfl fun _ => aH (bp ht rfl) rfl rfl ?_
  rintro _ pF _ ⟨lu, rfl, (nw : HS _ _ _ [_, a0, c3, [(J, .cells [(.slice an c4.length ar)] none false)], _, [(lu, .cells [(.slice none 0 0), (iI 0), (iI 0), (iI 0), (iI 0)] none false)]] _), _⟩
  refine wa (iI (k : Int)) rfl rfl rfl (aL (aE (q := 5) nw rfl rfl rfl rfl rfl rfl rfl rfl rfl) rfl ?_)
  rintro _ pG _ ⟨(l0 : HS _ _ _ [_, _, _, _, _, [(lu, .cells [(.slice (cA (a3 k) 0) (c.blocks.getD k default).ins.length (cK (a3 k) 0)), (iI (c.blocks.getD k default).fin), (iI (c.blocks.getD k default).reg), (iI (c.blocks.getD k default).tgt), (iI (c.blocks.getD k default).els)] none false)]] _), _⟩
  let lj : Fp := [(lu, .cells [(.slice (cA (a3 k) 0) (c.blocks.getD k default).ins.length (cK (a3 k) 0)), (iI (c.blocks.getD k default).fin), (iI (c.blocks.getD k default).reg), (iI (c.blocks.getD k default).tgt), (iI (c.blocks.getD k default).els)] none false)]
  refine ae 2 rfl (wU 2 [(1, .o (.slice (cA (a3 k) 0) (c.blocks.getD k default).ins.length (cK (a3 k) 0)))] 49 52 [] [(50, (.slice (cA (a3 k) 0) (c.blocks.getD k default).ins.length (cK (a3 k) 0))), (51, (iI ((c.blocks.getD k default).ins.length : Int))), (52, (iI 0))] (ql 46 0 (HS.hc l0 (i := 5) rfl) rfl rfl) rfl fun _ => aj (fun (mm : Nat) f H' => ∃ (g3 : List Hd) (it : List (List U64)) (n : Nat) (a8 : Fp) (a6 : Option Addr) (a7 : Nat) (dt : Fp) (F' : Fz), Fz.le ln F' ∧ HS (Base.of H []) F' H' [g4, a8, dt, [(J, .cells [(.slice a6 g3.length a7)] none false)], g0, lj] R ∧ OS F' (.slice a6 g3.length a7) g3 a8 ∧ SF F' g3 it dt ∧ aD f [(1, (.pointer (some ⟨b1, 0, none⟩))), (3, (.pointer (some ⟨J, 0, none⟩))), (5, (.func (.func 50) #[] #[(.pointer (some ⟨J, 0, none⟩))])), (6, (.slice fd z.length fi)), (7, (iI (k : Int))), (42, (.slice cl c.blocks.length co)), (43, (iI (c.blocks.length : Int))), (44, (iI (k : Int))), (50, (.slice (cA (a3 k) 0) (c.blocks.getD k default).ins.length (cK (a3 k) 0))), (51, (iI ((c.blocks.getD k default).ins.length : Int))), (52, (iI (n : Int)))] ∧ mm = (c.blocks.getD k default).ins.length - n ∧ (RwF c it (E1 c k n)) ∧ (n ≤ (c.blocks.getD k default).ins.length)) _ ⟨c4, il, 0, a0, an, ar, c3, _, fR, l0, f9, hu, ⟨rfl, rfl, rfl, rfl, rfl, rfl, rfl, rfl, rfl, rfl, rfl, trivial⟩, rfl, (rw_e1 ms), (by omega)⟩ ?_)
  rintro pm pS pH ⟨g3, it, n, a8, a6, a7, dt, pw, hg, h6, c8, ea, lO, rfl, mS, hn⟩ nF
  refine au _ lO (fun _ => ?_)
  clear lO
  replace hT := hT.mono hg
  replace b3 := b3.mono hg
  replace g9 := g9.mono hg
  have nO := FAM.len ea
  refine ah 1 rfl (wT 2 [] 53 53 [] [(53, (.bool (decide ((n : Int) < ((c.blocks.getD k default).ins.length : Int)))))] rfl fun _ => am 4 5 (v := (decide ((n : Int) < ((c.blocks.getD k default).ins.length : Int)))) rfl rfl rfl rfl (fun jb => ?_) (fun jb => ?_))
  ·
   have lz := jb
   try simp only [BS] at lz
   have hin : n < (c.blocks.getD k default).ins.length := by omega
   have hvl : (∀ x ∈ aw ((c.blocks.getD k default).ins.getD n default), 0 ≤ x ∧ x < c.regs) ∧ (∀ x ∈ ab ((c.blocks.getD k default).ins.getD n default), 0 ≤ x ∧ x < c.regs) ∧ ((c.blocks.getD k default).ins.getD n default).args.length ≤ 6 := bR (vF.ins k hbn n hin)
   have pe := hvl.2.2
   have pl : Lst ((z.getD k default).getD (n + 1) default) (ptS c k (n + 1)) := px.pt (n + 1) hin
   have hpl := Lst.len pl hrg.1 (fun r h => pt_lt vF hbn h)
   have hpv : ((z.getD k default).getD (n + 1) []).length = ((z.getD k default).getD (n + 1) default).length := rfl
   have o7 : ((z.getD k []).getD (n + 1) []).length = ((z.getD k default).getD (n + 1) default).length := rfl
   have hwl := cG (v := ((c.blocks.getD k default).ins.getD n default))
   refine aa ?_
   obtain ⟨f2, l2⟩ := Sv.view (SR.sv g9 h6)
   obtain ⟨oj, om, oo, oq, ot, mL⟩ := VInT.fx (l2 n)
   let ll : Value := (.agg ⟨[(iI ((c.blocks.getD k default).ins.getD n default).i.op), (iI ((c.blocks.getD k default).ins.getD n default).i.a), (iI ((c.blocks.getD k default).ins.getD n default).i.b), (iI ((c.blocks.getD k default).ins.getD n default).i.c), (iI ((c.blocks.getD k default).ins.getD n default).i.n), (.slice (cA (f2 n) 5) ((c.blocks.getD k default).ins.getD n default).args.length (cK (f2 n) 5))]⟩)
   refine wRo 3 0 [(2, .o ll)] 54 56 [] [(54, (iI (n : Int))), (56, ll)] (vA (Sv.ix (j := (n : Int)) (SR.sv g9 h6) (by omega) (by omega)) (vA (qn 52 0 6 (VInT.vw (l2 n) (by omega)) rfl rfl rfl rfl) trivial)) rfl fun _ => aH (bp h6 rfl) rfl rfl ?_
   rintro _ pI _ ⟨h9, rfl, (nx : HS _ _ _ [_, a8, dt, [(J, .cells [(.slice a6 g3.length a7)] none false)], _, _, [(h9, .cells [(iI 0), (iI 0), (iI 0), (iI 0), (iI 0), (.slice none 0 0)] none false)]] _), _⟩
   refine wa (iI (n : Int)) rfl rfl rfl (aL (aE (q := 6) nx rfl rfl rfl rfl rfl rfl rfl rfl rfl) rfl ?_)
   rintro _ pJ _ ⟨(kd : HS _ _ _ [_, _, _, _, _, _, [(h9, .cells [(iI ((c.blocks.getD k default).ins.getD n default).i.op), (iI ((c.blocks.getD k default).ins.getD n default).i.a), (iI ((c.blocks.getD k default).ins.getD n default).i.b), (iI ((c.blocks.getD k default).ins.getD n default).i.c), (iI ((c.blocks.getD k default).ins.getD n default).i.n), (.slice (cA (f2 n) 5) ((c.blocks.getD k default).ins.getD n default).args.length (cK (f2 n) 5))] none false)]] _), _⟩
   refine ae 2 rfl (aa (wUo 1 0 [(0, .o ll)] 57 57 [] [(57, ll)] (qn 52 0 6 (HS.hc kd (i := 6) rfl) rfl rfl rfl rfl) rfl fun _ => az (ap rfl rfl rfl) rfl rfl (ma.fF ex ((c.blocks.getD k default).ins.getD n default) (HS.call kd) (by omega) (by omega) (by omega) (by omega) (by omega) mL hT) ?_))
   rintro _ pK ⟨lr, mn, p2, lc, nU, hM, ki, rfl, g7, rfl⟩
   replace ki : HS _ _ _ [_, _, _, _, _, _, _, lc] _ := HS.back kd rfl ki
   replace c8 := c8.mono hM
   replace ea := SF.mono hM ea
   let mu : Fp := [(h9, .cells [(iI ((c.blocks.getD k default).ins.getD n default).i.op), (iI ((c.blocks.getD k default).ins.getD n default).i.a), (iI ((c.blocks.getD k default).ins.getD n default).i.b), (iI ((c.blocks.getD k default).ins.getD n default).i.c), (iI ((c.blocks.getD k default).ins.getD n default).i.n), (.slice (cA (f2 n) 5) ((c.blocks.getD k default).ins.getD n default).args.length (cK (f2 n) 5))] none false)]
   refine wTo 2 2 [] 59 60 [] [(59, (iI ((ab ((c.blocks.getD k default).ins.getD n default)).length : Int))), (60, (iI 0))] rfl fun _ => ae 2 rfl (aj (fun (mm : Nat) f H' => ∃ (hz : List Hd) (iv : List (List U64)) (q : Nat) (b9 : Fp) (b4 : Option Addr) (b7 : Nat) (em : Fp) (F' : Fz), Fz.le nU F' ∧ HS (Base.of H []) F' H' [g4, b9, em, [(J, .cells [(.slice b4 hz.length b7)] none false)], g0, lj, mu, lc] R ∧ OS F' (.slice b4 hz.length b7) hz b9 ∧ SF F' hz iv em ∧ aD f [(1, (.pointer (some ⟨b1, 0, none⟩))), (3, (.pointer (some ⟨J, 0, none⟩))), (5, (.func (.func 50) #[] #[(.pointer (some ⟨J, 0, none⟩))])), (6, (.slice fd z.length fi)), (7, (iI (k : Int))), (9, (iI (n : Int))), (10, (.pointer (some ⟨h9, 0, none⟩))), (42, (.slice cl c.blocks.length co)), (43, (iI (c.blocks.length : Int))), (44, (iI (k : Int))), (50, (.slice (cA (a3 k) 0) (c.blocks.getD k default).ins.length (cK (a3 k) 0))), (51, (iI ((c.blocks.getD k default).ins.length : Int))), (52, (iI (n : Int))), (58, (.slice lr (ab ((c.blocks.getD k default).ins.getD n default)).length mn)), (59, (iI ((ab ((c.blocks.getD k default).ins.getD n default)).length : Int))), (60, (iI (q : Int)))] ∧ mm = (ab ((c.blocks.getD k default).ins.getD n default)).length - q ∧ (RwF c iv (E2 c k n q)) ∧ (q ≤ (ab ((c.blocks.getD k default).ins.getD n default)).length)) _ ⟨g3, it, 0, a8, a6, a7, dt, _, fR, ki, c8, ea, ⟨rfl, rfl, rfl, rfl, rfl, rfl, rfl, rfl, rfl, rfl, rfl, rfl, rfl, rfl, rfl, rfl, trivial⟩, rfl, (rw_e2 mS), (by omega)⟩ ?_)
   rintro pn pT pL ⟨hz, iv, q, b9, b4, b7, em, nV, hQ, d3, go, hw, lP, rfl, mT, hq⟩ nG
   refine au _ lP (fun _ => ?_)
   clear lP
   replace b3 := (b3.mono hM).mono hQ
   replace g7 := g7.mono hQ
   have nP := FAM.len hw
   refine ah 1 rfl (wT 2 [] 61 61 [] [(61, (.bool (decide ((q : Int) < ((ab ((c.blocks.getD k default).ins.getD n default)).length : Int)))))] rfl fun _ => am 4 5 (v := (decide ((q : Int) < ((ab ((c.blocks.getD k default).ins.getD n default)).length : Int)))) rfl rfl rfl rfl (fun jc => ?_) (fun jc => ?_))
   ·
    have lA := jc
    try simp only [BS] at lA
    have hwq := eQ hvl.2.1 (k := q) (by omega)
    obtain ⟨oP, l3⟩ := Sv.view (OS.sv g7 d3 (i := 7) rfl)
    have pV := fI (l3 q)
    refine wR 2 [(1, .o (iI ((ab ((c.blocks.getD k default).ins.getD n default)).getD q 0)))] 62 63 [12] [(12, (iI ((ab ((c.blocks.getD k default).ins.getD n default)).getD q 0)))] (vA (Sv.ix (j := (q : Int)) (OS.sv g7 d3 (i := 7) rfl) (by omega) (by omega)) (vA (ql 3 0 (vI (l3 q) (by omega)) rfl rfl) trivial)) rfl fun _ => ?_
    obtain ⟨lE, l4⟩ := Sv.view (OS.sv b3 d3 (i := 4) rfl)
    have mV := fL (l4 k)
    obtain ⟨f3, l5⟩ := Sv.view (SR.sv mV d3)
    have lf := fL (l5 (n + 1))
    refine wR 2 [(3, .o (.slice (cA (lE k) 0) (z.getD k default).length (cK (lE k) 0))), (7, .o (.slice (cA (f3 (n + 1)) 0) ((z.getD k default).getD (n + 1) default).length (cK (f3 (n + 1)) 0)))] 64 73 [] [(71, (.slice (cA (f3 (n + 1)) 0) ((z.getD k default).getD (n + 1) default).length (cK (f3 (n + 1)) 0))), (72, (iI (((z.getD k default).getD (n + 1) default).length : Int))), (73, (iI 0))] (vA (Sv.ix (j := (k : Int)) (OS.sv b3 d3 (i := 4) rfl) (by omega) (by omega)) (vA (ql 32 0 (vL (l4 k) (by omega)) rfl rfl) (vA (vi (n := (n : Int) + 1) (by omega)) (vA (Sv.ix (j := (n : Int) + 1) (SR.sv mV d3) (by omega) (by omega)) (vA (ql 25 0 (vL (l5 (n + 1)) (by omega)) rfl rfl) trivial))))) rfl fun _ => aj (fun (mm : Nat) f H' => ∃ (E : List Hd) (A : List (List U64)) (p : Nat) (a1 : Fp) (Z : Option Addr) (al : Nat) (es : Fp) (F' : Fz), Fz.le nV F' ∧ HS (Base.of H []) F' H' [g4, a1, es, [(J, .cells [(.slice Z E.length al)] none false)], g0, lj, mu, lc] R ∧ OS F' (.slice Z E.length al) E a1 ∧ SF F' E A es ∧ aD f [(1, (.pointer (some ⟨b1, 0, none⟩))), (3, (.pointer (some ⟨J, 0, none⟩))), (5, (.func (.func 50) #[] #[(.pointer (some ⟨J, 0, none⟩))])), (6, (.slice fd z.length fi)), (7, (iI (k : Int))), (9, (iI (n : Int))), (10, (.pointer (some ⟨h9, 0, none⟩))), (12, (iI ((ab ((c.blocks.getD k default).ins.getD n default)).getD q 0))), (42, (.slice cl c.blocks.length co)), (43, (iI (c.blocks.length : Int))), (44, (iI (k : Int))), (50, (.slice (cA (a3 k) 0) (c.blocks.getD k default).ins.length (cK (a3 k) 0))), (51, (iI ((c.blocks.getD k default).ins.length : Int))), (52, (iI (n : Int))), (58, (.slice lr (ab ((c.blocks.getD k default).ins.getD n default)).length mn)), (59, (iI ((ab ((c.blocks.getD k default).ins.getD n default)).length : Int))), (60, (iI (q : Int))), (71, (.slice (cA (f3 (n + 1)) 0) ((z.getD k default).getD (n + 1) default).length (cK (f3 (n + 1)) 0))), (72, (iI (((z.getD k default).getD (n + 1) default).length : Int))), (73, (iI (p : Int)))] ∧ mm = (((z.getD k default).getD (n + 1) default)).length - p ∧ (RwF c A (E3 c k n q ((z.getD k default).getD (n + 1) default) p)) ∧ (p ≤ (((z.getD k default).getD (n + 1) default)).length)) _ ⟨hz, iv, 0, b9, b4, b7, em, _, fR, d3, go, hw, ⟨rfl, rfl, rfl, rfl, rfl, rfl, rfl, rfl, rfl, rfl, rfl, rfl, rfl, rfl, rfl, rfl, rfl, rfl, rfl, rfl, trivial⟩, rfl, (rw_e3 mT), (by omega)⟩ ?_
    rintro po pU pM ⟨E, A, p, a1, Z, al, es, lp, hR, dl, ax, f0, lQ, rfl, hC, hp⟩ l9
    refine au _ lQ (fun _ => ?_)
    clear lQ
    replace lf := lf.mono hR
    have nQ := FAM.len f0
    refine ah 1 rfl (wT 2 [] 74 74 [] [(74, (.bool (decide ((p : Int) < (((z.getD k default).getD (n + 1) default).length : Int)))))] rfl fun _ => am 4 5 (v := (decide ((p : Int) < (((z.getD k default).getD (n + 1) default).length : Int)))) rfl rfl rfl rfl (fun jq => ?_) (fun jq => ?_))
    ·
     have lC := jq
     try simp only [BS] at lC
     have hxp : 0 ≤ (((z.getD k default).getD (n + 1) default)).getD p 0 ∧ (((z.getD k default).getD (n + 1) default)).getD p 0 < c.regs := by (have hm := (pl.mem _).1 (mem_at (l := ((z.getD k default).getD (n + 1) default)) (q := p) (by omega)); have hh := pt_lt vF hbn hm.2; omega)
     obtain ⟨oQ, l6⟩ := Sv.view (SR.sv lf dl)
     have pW := fI (l6 p)
     refine wR 2 [(1, .o (iI (((z.getD k default).getD (n + 1) default).getD p 0)))] 75 76 [14] [(14, (iI (((z.getD k default).getD (n + 1) default).getD p 0)))] (vA (Sv.ix (j := (p : Int)) (SR.sv lf dl) (by omega) (by omega)) (vA (ql 3 0 (vI (l6 p) (by omega)) rfl rfl) trivial)) rfl fun _ => wR 1 [(6, .o (iI ((c.blocks.getD k default).ins.getD n default).i.op)), (12, .o (iI ((c.blocks.getD k default).ins.getD n default).i.b))] 77 93 [] [(93, (.bool (((((z.getD k default).getD (n + 1) default).getD p 0) != ((ab ((c.blocks.getD k default).ins.getD n default)).getD q 0)) && (!((((c.blocks.getD k default).ins.getD n default).i.op == 10) && ((((z.getD k default).getD (n + 1) default).getD p 0) == ((c.blocks.getD k default).ins.getD n default).i.b))))))] (vA (fun (g1 : ((((z.getD k default).getD (n + 1) default).getD p 0) != ((ab ((c.blocks.getD k default).ins.getD n default)).getD q 0)) = true) => (ql 3 0 (HS.hc dl (i := 6) rfl) rfl rfl)) (vA (fun (g1 : (((c.blocks.getD k default).ins.getD n default).i.op == 10) = true) (g2 : ((((z.getD k default).getD (n + 1) default).getD p 0) != ((ab ((c.blocks.getD k default).ins.getD n default)).getD q 0)) = true) => (ql 3 2 (HS.hc dl (i := 6) rfl) rfl rfl)) trivial)) rfl fun _ => am 0 2 (v := (((((z.getD k default).getD (n + 1) default).getD p 0) != ((ab ((c.blocks.getD k default).ins.getD n default)).getD q 0)) && (!((((c.blocks.getD k default).ins.getD n default).i.op == 10) && ((((z.getD k default).getD (n + 1) default).getD p 0) == ((c.blocks.getD k default).ins.getD n default).i.b))))) rfl rfl rfl rfl (fun jw => ?_) (fun jw => ?_)
     ·
      have ib := jw
      try simp only [BS] at ib
      have hl := ib
      have hne : eok c k n ((ab ((c.blocks.getD k default).ins.getD n default)).getD q 0) ((((z.getD k default).getD (n + 1) default)).getD p 0) := ⟨hl.1, fun h => by have h2 := hl.2; simp_all⟩
      have pc := hC.len
      have hra := hC.row ((ab ((c.blocks.getD k default).ins.getD n default)).getD q 0).toNat (by omega)
      have hrx := hC.row ((((z.getD k default).getD (n + 1) default)).getD p 0).toNat (by omega)
      have hnx := n64 (s := A.getD ((ab ((c.blocks.getD k default).ins.getD n default)).getD q 0).toNat default) (n := (((z.getD k default).getD (n + 1) default)).getD p 0) (by omega)
      have hna := n64 (s := A.getD ((((z.getD k default).getD (n + 1) default)).getD p 0).toNat default) (n := (ab ((c.blocks.getD k default).ins.getD n default)).getD q 0) (by omega)
      have hax : ((ab ((c.blocks.getD k default).ins.getD n default)).getD q 0).toNat ≠ ((((z.getD k default).getD (n + 1) default)).getD p 0).toNat := by have := hl.1; omega
      refine aa (wm (.func (.func 50) #[] #[(.pointer (some ⟨J, 0, none⟩))]) rfl rfl rfl (wm (iI ((ab ((c.blocks.getD k default).ins.getD n default)).getD q 0)) rfl rfl rfl (wm (iI (((z.getD k default).getD (n + 1) default).getD p 0)) rfl rfl rfl (az (R := fun v H' => ∃ (rhc : List Hd) (rlc : List (List U64)) (dd : Fp) (c7 : Option Addr) (c9 : Nat) (f1 : Fp) (F' : Fz), Fz.le lp F' ∧ HS (Base.of H []) F' H' [g4, dd, f1, [(J, .cells [(.slice c7 rhc.length c9)] none false)], g0, lj, mu, lc] R ∧ OS F' (.slice c7 rhc.length c9) rhc dd ∧ SF F' rhc rlc f1 ∧ v = .tuple #[] ∧ (Con A rlc ((ab ((c.blocks.getD k default).ins.getD n default)).getD q 0) (((z.getD k default).getD (n + 1) default).getD p 0))) (ap_callc rfl rfl rfl rfl) rfl rfl ?_ ?_))))
      ·
       refine aI Tryd.func50 rfl rfl (ah 1 rfl (aa ?_))
       obtain ⟨oR, nB⟩ := Sv.view (OS.sv ax dl (i := 1) rfl)
       obtain ⟨nh, lG, f5, e3, nm⟩ := SF.open f0 dl (q := 2) (i := ((ab ((c.blocks.getD k default).ins.getD n default)).getD q 0).toNat) rfl (by omega)
       have f5 : HS _ _ _ [_, a1, nh, [(J, .cells [(.slice Z E.length al)] none false)], _, _, _, _, lG] _ := f5
       have e3 : OS lp (.slice (E.getD (((ab ((c.blocks.getD k default).ins.getD n default)).getD q 0).toNat) default).a (E.getD (((ab ((c.blocks.getD k default).ins.getD n default)).getD q 0).toNat) default).n (E.getD (((ab ((c.blocks.getD k default).ins.getD n default)).getD q 0).toNat) default).k) (A.getD (((ab ((c.blocks.getD k default).ins.getD n default)).getD q 0).toNat) default) lG := e3
       have ph := OS.nlen e3
       have pr : in64 (((z.getD k default).getD (n + 1) default).getD p 0) → in64 (Int.tdiv (((z.getD k default).getD (n + 1) default).getD p 0) 64) := fun h => vq h (by decide)
       obtain ⟨oT, l7⟩ := Sv.view (OS.sv e3 f5 (i := 8) rfl)
       have pX := fU (l7 ((Int.tdiv (((z.getD k default).getD (n + 1) default).getD p 0) 64).toNat))
       refine wRo 14 0 [(0, .o (.slice Z E.length al)), (3, .o (.slice (E.getD (((ab ((c.blocks.getD k default).ins.getD n default)).getD q 0).toNat) default).a (E.getD (((ab ((c.blocks.getD k default).ins.getD n default)).getD q 0).toNat) default).n (E.getD (((ab ((c.blocks.getD k default).ins.getD n default)).getD q 0).toNat) default).k)), (7, .o (.int .u64 (((A.getD (((ab ((c.blocks.getD k default).ins.getD n default)).getD q 0).toNat) default).getD ((Int.tdiv (((z.getD k default).getD (n + 1) default).getD p 0) 64).toNat) default).n)))] 5 18 [] [(17, (.int .u64 (aR .or .u64 (((A.getD (((ab ((c.blocks.getD k default).ins.getD n default)).getD q 0).toNat) default).getD ((Int.tdiv (((z.getD k default).getD (n + 1) default).getD p 0) 64).toNat) default).n) (IntKind.u64.wrap (1 * 2 ^ (Nat.min ((Int.tmod (((z.getD k default).getD (n + 1) default).getD p 0) 64).toNat) 64)))))), (18, (.pointer (some ⟨sB (.slice (E.getD (((ab ((c.blocks.getD k default).ins.getD n default)).getD q 0).toNat) default).a (E.getD (((ab ((c.blocks.getD k default).ins.getD n default)).getD q 0).toNat) default).n (E.getD (((ab ((c.blocks.getD k default).ins.getD n default)).getD q 0).toNat) default).k), sO (.slice (E.getD (((ab ((c.blocks.getD k default).ins.getD n default)).getD q 0).toNat) default).a (E.getD (((ab ((c.blocks.getD k default).ins.getD n default)).getD q 0).toNat) default).n (E.getD (((ab ((c.blocks.getD k default).ins.getD n default)).getD q 0).toNat) default).k) + ((Int.tdiv (((z.getD k default).getD (n + 1) default).getD p 0) 64).toNat) * Rp.sz U64, none⟩)))] (vA (ql 85 0 (HS.hc dl (i := 3) rfl) rfl rfl) (vA (Sv.ix (j := ((ab ((c.blocks.getD k default).ins.getD n default)).getD q 0)) (OS.sv ax dl (i := 1) rfl) (by omega) (by omega)) (vA (ql 86 0 (vH (nB (((ab ((c.blocks.getD k default).ins.getD n default)).getD q 0).toNat)) (by omega)) rfl rfl) (vA (vA (show (64 : Int) ≠ 0 from by decide) (vq (a := (((z.getD k default).getD (n + 1) default).getD p 0)) (b := 64) (by omega) (by decide))) (vA (Sv.ix (j := Int.tdiv (((z.getD k default).getD (n + 1) default).getD p 0) 64) (OS.sv e3 f5 (i := 8) rfl) (by omega) (by omega)) (vA (ql 87 0 (vU (l7 ((Int.tdiv (((z.getD k default).getD (n + 1) default).getD p 0) 64).toNat)) (by omega)) rfl rfl) (vA (show (64 : Int) ≠ 0 from by decide) (vA (vu (n := Int.tmod (((z.getD k default).getD (n + 1) default).getD p 0) 64) (by omega)) (vA (show (0 : Int) ≤ Int.tmod (((z.getD k default).getD (n + 1) default).getD p 0) 64 from by omega) (vA (Sv.ix (j := Int.tdiv (((z.getD k default).getD (n + 1) default).getD p 0) 64) (OS.sv e3 f5 (i := 8) rfl) (by omega) (by omega)) trivial)))))))))) rfl fun _ => aL (bY (α := U64) (j := (Int.tdiv (((z.getD k default).getD (n + 1) default).getD p 0) 64).toNat) (off := 0) (q := 8) ⟨aR .or .u64 (((A.getD (((ab ((c.blocks.getD k default).ins.getD n default)).getD q 0).toNat) default).getD ((Int.tdiv (((z.getD k default).getD (n + 1) default).getD p 0) 64).toNat) default).n) (IntKind.u64.wrap (1 * 2 ^ (Nat.min ((Int.tmod (((z.getD k default).getD (n + 1) default).getD p 0) 64).toNat) 64)))⟩ e3 f5 rfl rfl rfl rfl rfl rfl rfl rfl (aK (x := default) (by omega)) rfl (by rintro cs ⟨rfl, _⟩; exact ⟨a04 rfl, rfl, by (dsimp only; exact eE _ _ _)⟩)) rfl ?_
       rintro _ pO n3 ⟨lU, (nz : HS _ _ _ [_, _, _, _, _, _, _, _, n3] _), _⟩
       have ov := OS.len' lU
       refine ae 1 rfl ?_
       obtain ⟨nk, f6, lR⟩ := SF.shut nm fR nz (q := 2) (m := 8) (by decide) rfl rfl lU
       have f6 : HS _ _ _ [_, _, nk, _, _, _, _, _, []] _ := f6
       have o0 := FAM.len lR
       have p1 : ((A.set (((ab ((c.blocks.getD k default).ins.getD n default)).getD q 0).toNat) ((A.getD (((ab ((c.blocks.getD k default).ins.getD n default)).getD q 0).toNat) default).set ((Int.tdiv (((z.getD k default).getD (n + 1) default).getD p 0) 64).toNat) ⟨aR .or .u64 (((A.getD (((ab ((c.blocks.getD k default).ins.getD n default)).getD q 0).toNat) default).getD ((Int.tdiv (((z.getD k default).getD (n + 1) default).getD p 0) 64).toNat) default).n) (IntKind.u64.wrap (1 * 2 ^ (Nat.min ((Int.tmod (((z.getD k default).getD (n + 1) default).getD p 0) 64).toNat) 64)))⟩)).getD (((z.getD k default).getD (n + 1) default).getD p 0).toNat default).length = (A.getD (((z.getD k default).getD (n + 1) default).getD p 0).toNat default).length := by rw [d8, if_neg (fun e => hax e.1)]
       refine aa ?_
       obtain ⟨oU, nC⟩ := Sv.view (OS.sv ax f6 (i := 1) rfl)
       obtain ⟨nj, lH, f7, e4, nn⟩ := SF.open lR f6 (q := 2) (i := (((z.getD k default).getD (n + 1) default).getD p 0).toNat) rfl (by omega)
       have f7 : HS _ _ _ [_, _, nj, _, _, _, _, _, _, lH] _ := f7
       have e4 : OS lp (.slice (E.getD (((z.getD k default).getD (n + 1) default).getD p 0).toNat default).a (E.getD (((z.getD k default).getD (n + 1) default).getD p 0).toNat default).n (E.getD (((z.getD k default).getD (n + 1) default).getD p 0).toNat default).k) ((A.set (((ab ((c.blocks.getD k default).ins.getD n default)).getD q 0).toNat) ((A.getD (((ab ((c.blocks.getD k default).ins.getD n default)).getD q 0).toNat) default).set ((Int.tdiv (((z.getD k default).getD (n + 1) default).getD p 0) 64).toNat) ⟨aR .or .u64 (((A.getD (((ab ((c.blocks.getD k default).ins.getD n default)).getD q 0).toNat) default).getD ((Int.tdiv (((z.getD k default).getD (n + 1) default).getD p 0) 64).toNat) default).n) (IntKind.u64.wrap (1 * 2 ^ (Nat.min ((Int.tmod (((z.getD k default).getD (n + 1) default).getD p 0) 64).toNat) 64)))⟩)).getD (((z.getD k default).getD (n + 1) default).getD p 0).toNat default) lH := e4
       have pi := OS.nlen e4
       have pu : in64 ((ab ((c.blocks.getD k default).ins.getD n default)).getD q 0) → in64 (Int.tdiv ((ab ((c.blocks.getD k default).ins.getD n default)).getD q 0) 64) := fun h => vq h (by decide)
       obtain ⟨oV, l8⟩ := Sv.view (OS.sv e4 f7 (i := 9) rfl)
       have pY := fU (l8 ((Int.tdiv ((ab ((c.blocks.getD k default).ins.getD n default)).getD q 0) 64).toNat))
       refine wRo 14 0 [(0, .o (.slice Z E.length al)), (3, .o (.slice (E.getD (((z.getD k default).getD (n + 1) default).getD p 0).toNat default).a (E.getD (((z.getD k default).getD (n + 1) default).getD p 0).toNat default).n (E.getD (((z.getD k default).getD (n + 1) default).getD p 0).toNat default).k)), (7, .o (.int .u64 ((((A.set (((ab ((c.blocks.getD k default).ins.getD n default)).getD q 0).toNat) ((A.getD (((ab ((c.blocks.getD k default).ins.getD n default)).getD q 0).toNat) default).set ((Int.tdiv (((z.getD k default).getD (n + 1) default).getD p 0) 64).toNat) ⟨aR .or .u64 (((A.getD (((ab ((c.blocks.getD k default).ins.getD n default)).getD q 0).toNat) default).getD ((Int.tdiv (((z.getD k default).getD (n + 1) default).getD p 0) 64).toNat) default).n) (IntKind.u64.wrap (1 * 2 ^ (Nat.min ((Int.tmod (((z.getD k default).getD (n + 1) default).getD p 0) 64).toNat) 64)))⟩)).getD (((z.getD k default).getD (n + 1) default).getD p 0).toNat default).getD ((Int.tdiv ((ab ((c.blocks.getD k default).ins.getD n default)).getD q 0) 64).toNat) default).n)))] 19 32 [] [(31, (.int .u64 (aR .or .u64 ((((A.set (((ab ((c.blocks.getD k default).ins.getD n default)).getD q 0).toNat) ((A.getD (((ab ((c.blocks.getD k default).ins.getD n default)).getD q 0).toNat) default).set ((Int.tdiv (((z.getD k default).getD (n + 1) default).getD p 0) 64).toNat) ⟨aR .or .u64 (((A.getD (((ab ((c.blocks.getD k default).ins.getD n default)).getD q 0).toNat) default).getD ((Int.tdiv (((z.getD k default).getD (n + 1) default).getD p 0) 64).toNat) default).n) (IntKind.u64.wrap (1 * 2 ^ (Nat.min ((Int.tmod (((z.getD k default).getD (n + 1) default).getD p 0) 64).toNat) 64)))⟩)).getD (((z.getD k default).getD (n + 1) default).getD p 0).toNat default).getD ((Int.tdiv ((ab ((c.blocks.getD k default).ins.getD n default)).getD q 0) 64).toNat) default).n) (IntKind.u64.wrap (1 * 2 ^ (Nat.min ((Int.tmod ((ab ((c.blocks.getD k default).ins.getD n default)).getD q 0) 64).toNat) 64)))))), (32, (.pointer (some ⟨sB (.slice (E.getD (((z.getD k default).getD (n + 1) default).getD p 0).toNat default).a (E.getD (((z.getD k default).getD (n + 1) default).getD p 0).toNat default).n (E.getD (((z.getD k default).getD (n + 1) default).getD p 0).toNat default).k), sO (.slice (E.getD (((z.getD k default).getD (n + 1) default).getD p 0).toNat default).a (E.getD (((z.getD k default).getD (n + 1) default).getD p 0).toNat default).n (E.getD (((z.getD k default).getD (n + 1) default).getD p 0).toNat default).k) + ((Int.tdiv ((ab ((c.blocks.getD k default).ins.getD n default)).getD q 0) 64).toNat) * Rp.sz U64, none⟩)))] (vA (ql 85 0 (HS.hc f6 (i := 3) rfl) rfl rfl) (vA (Sv.ix (j := (((z.getD k default).getD (n + 1) default).getD p 0)) (OS.sv ax f6 (i := 1) rfl) (by omega) (by omega)) (vA (ql 86 0 (vH (nC (((z.getD k default).getD (n + 1) default).getD p 0).toNat) (by omega)) rfl rfl) (vA (vA (show (64 : Int) ≠ 0 from by decide) (vq (a := ((ab ((c.blocks.getD k default).ins.getD n default)).getD q 0)) (b := 64) (by omega) (by decide))) (vA (Sv.ix (j := Int.tdiv ((ab ((c.blocks.getD k default).ins.getD n default)).getD q 0) 64) (OS.sv e4 f7 (i := 9) rfl) (by omega) (by omega)) (vA (ql 87 0 (vU (l8 ((Int.tdiv ((ab ((c.blocks.getD k default).ins.getD n default)).getD q 0) 64).toNat)) (by omega)) rfl rfl) (vA (show (64 : Int) ≠ 0 from by decide) (vA (vu (n := Int.tmod ((ab ((c.blocks.getD k default).ins.getD n default)).getD q 0) 64) (by omega)) (vA (show (0 : Int) ≤ Int.tmod ((ab ((c.blocks.getD k default).ins.getD n default)).getD q 0) 64 from by omega) (vA (Sv.ix (j := Int.tdiv ((ab ((c.blocks.getD k default).ins.getD n default)).getD q 0) 64) (OS.sv e4 f7 (i := 9) rfl) (by omega) (by omega)) trivial)))))))))) rfl fun _ => aL (bY (α := U64) (j := (Int.tdiv ((ab ((c.blocks.getD k default).ins.getD n default)).getD q 0) 64).toNat) (off := 0) (q := 9) ⟨aR .or .u64 ((((A.set (((ab ((c.blocks.getD k default).ins.getD n default)).getD q 0).toNat) ((A.getD (((ab ((c.blocks.getD k default).ins.getD n default)).getD q 0).toNat) default).set ((Int.tdiv (((z.getD k default).getD (n + 1) default).getD p 0) 64).toNat) ⟨aR .or .u64 (((A.getD (((ab ((c.blocks.getD k default).ins.getD n default)).getD q 0).toNat) default).getD ((Int.tdiv (((z.getD k default).getD (n + 1) default).getD p 0) 64).toNat) default).n) (IntKind.u64.wrap (1 * 2 ^ (Nat.min ((Int.tmod (((z.getD k default).getD (n + 1) default).getD p 0) 64).toNat) 64)))⟩)).getD (((z.getD k default).getD (n + 1) default).getD p 0).toNat default).getD ((Int.tdiv ((ab ((c.blocks.getD k default).ins.getD n default)).getD q 0) 64).toNat) default).n) (IntKind.u64.wrap (1 * 2 ^ (Nat.min ((Int.tmod ((ab ((c.blocks.getD k default).ins.getD n default)).getD q 0) 64).toNat) 64)))⟩ e4 f7 rfl rfl rfl rfl rfl rfl rfl rfl (aK (x := default) (by omega)) rfl (by rintro cs ⟨rfl, _⟩; exact ⟨a04 rfl, rfl, by (dsimp only; exact eE _ _ _)⟩)) rfl ?_
       rintro _ pP n5 ⟨lV, (nA : HS _ _ _ [_, _, _, _, _, _, _, _, _, n5] _), _⟩
       have ow := OS.len' lV
       refine ae 0 rfl ?_
       obtain ⟨lJ, kk, lS⟩ := SF.shut nn fR nA (q := 2) (m := 9) (by decide) rfl rfl lV
       have kk : HS _ _ _ [_, _, lJ, _, _, _, _, _, _, []] _ := kk
       have o1 := FAM.len lS
       refine bU ⟨.inl rfl, _, rfl, E, (A.set (((ab ((c.blocks.getD k default).ins.getD n default)).getD q 0).toNat) ((A.getD (((ab ((c.blocks.getD k default).ins.getD n default)).getD q 0).toNat) default).set ((Int.tdiv (((z.getD k default).getD (n + 1) default).getD p 0) 64).toNat) ⟨aR .or .u64 (((A.getD (((ab ((c.blocks.getD k default).ins.getD n default)).getD q 0).toNat) default).getD ((Int.tdiv (((z.getD k default).getD (n + 1) default).getD p 0) 64).toNat) default).n) (IntKind.u64.wrap (1 * 2 ^ (Nat.min ((Int.tmod (((z.getD k default).getD (n + 1) default).getD p 0) 64).toNat) 64)))⟩)).set (((z.getD k default).getD (n + 1) default).getD p 0).toNat (((A.set (((ab ((c.blocks.getD k default).ins.getD n default)).getD q 0).toNat) ((A.getD (((ab ((c.blocks.getD k default).ins.getD n default)).getD q 0).toNat) default).set ((Int.tdiv (((z.getD k default).getD (n + 1) default).getD p 0) 64).toNat) ⟨aR .or .u64 (((A.getD (((ab ((c.blocks.getD k default).ins.getD n default)).getD q 0).toNat) default).getD ((Int.tdiv (((z.getD k default).getD (n + 1) default).getD p 0) 64).toNat) default).n) (IntKind.u64.wrap (1 * 2 ^ (Nat.min ((Int.tmod (((z.getD k default).getD (n + 1) default).getD p 0) 64).toNat) 64)))⟩)).getD (((z.getD k default).getD (n + 1) default).getD p 0).toNat default).set ((Int.tdiv ((ab ((c.blocks.getD k default).ins.getD n default)).getD q 0) 64).toNat) ⟨aR .or .u64 ((((A.set (((ab ((c.blocks.getD k default).ins.getD n default)).getD q 0).toNat) ((A.getD (((ab ((c.blocks.getD k default).ins.getD n default)).getD q 0).toNat) default).set ((Int.tdiv (((z.getD k default).getD (n + 1) default).getD p 0) 64).toNat) ⟨aR .or .u64 (((A.getD (((ab ((c.blocks.getD k default).ins.getD n default)).getD q 0).toNat) default).getD ((Int.tdiv (((z.getD k default).getD (n + 1) default).getD p 0) 64).toNat) default).n) (IntKind.u64.wrap (1 * 2 ^ (Nat.min ((Int.tmod (((z.getD k default).getD (n + 1) default).getD p 0) 64).toNat) 64)))⟩)).getD (((z.getD k default).getD (n + 1) default).getD p 0).toNat default).getD ((Int.tdiv ((ab ((c.blocks.getD k default).ins.getD n default)).getD q 0) 64).toNat) default).n) (IntKind.u64.wrap (1 * 2 ^ (Nat.min ((Int.tmod ((ab ((c.blocks.getD k default).ins.getD n default)).getD q 0) 64).toNat) 64)))⟩), a1, Z, al, lJ, _, fR, (HS.sub kk (a05 _ _)), ax, lS, rfl, (con_two (by omega) (by omega) hax a0i a0i (fun i => add_ok (by omega) (by assumption) i) (fun i => add_ok (by omega) (by assumption) i))⟩
      rintro _ pN ⟨rhc, rlc, dd, c7, c9, f1, py, nq, ny, ik, ii, rfl, hcon⟩
      have nR := FAM.len ii
      refine ju (ah 2 rfl (wU 1 [] 73 73 [98] [(73, (iI ((p : Int) + 1)))] (vi (n := (p : Int) + 1) (by omega)) rfl fun _ => l9 _ _ _ ?_ ⟨rhc, rlc, p + 1, dd, c7, c9, f1, _, (fT (hR) nq), ny, ik, ii, ⟨rfl, rfl, rfl, rfl, rfl, rfl, rfl, rfl, rfl, rfl, rfl, rfl, rfl, rfl, rfl, rfl, rfl, rfl, rfl, rfl, trivial⟩, rfl, (rw_yes (by omega) hC hcon hwq.1 hxp.1 hne), (by omega)⟩))
      omega
     have ib := jw
     try simp only [BS] at ib
     have hl := ib
     have hne : ¬ eok c k n ((ab ((c.blocks.getD k default).ins.getD n default)).getD q 0) ((((z.getD k default).getD (n + 1) default)).getD p 0) := fun he => he.2 (hl he.1)
     refine wU 1 [] 73 73 [98] [(73, (iI ((p : Int) + 1)))] (vi (n := (p : Int) + 1) (by omega)) rfl fun _ => l9 _ _ _ ?_ ⟨E, A, p + 1, a1, Z, al, es, _, (hR), dl, ax, f0, ⟨rfl, rfl, rfl, rfl, rfl, rfl, rfl, rfl, rfl, rfl, rfl, rfl, rfl, rfl, rfl, rfl, rfl, rfl, rfl, rfl, trivial⟩, rfl, (rw_no (by omega) hC hne), (by omega)⟩
     omega
    have lC := jq
    try simp only [BS] at lC
    refine wU 1 [] 60 60 [99] [(60, (iI ((q : Int) + 1)))] (vi (n := (q : Int) + 1) (by omega)) rfl fun _ => nG _ _ _ ?_ ⟨E, A, q + 1, a1, Z, al, es, _, (fT (hQ) hR), dl, ax, f0, ⟨rfl, rfl, rfl, rfl, rfl, rfl, rfl, rfl, rfl, rfl, rfl, rfl, rfl, rfl, rfl, rfl, trivial⟩, rfl, (rw_e2s pl hC (show q < (ab ((c.blocks.getD k default).ins.getD n default)).length by omega) (by omega)), (by omega)⟩
    omega
   have lA := jc
   try simp only [BS] at lA
   refine wU 1 [] 52 52 [100] [(52, (iI ((n : Int) + 1)))] (vi (n := (n : Int) + 1) (by omega)) rfl fun _ => nF _ _ _ ?_ ⟨hz, iv, n + 1, b9, b4, b7, em, _, (fT (fT (hg) hM) hQ), (HS.sub d3 (a05 _ _)), go, hw, ⟨rfl, rfl, rfl, rfl, rfl, rfl, rfl, rfl, rfl, rfl, rfl, trivial⟩, rfl, (rw_e1s mT (show (ab ((c.blocks.getD k default).ins.getD n default)).length ≤ q by omega)), (by omega)⟩
   omega
  have lz := jb
  try simp only [BS] at lz
  refine wU 1 [] 44 44 [101] [(44, (iI ((k : Int) + 1)))] (vi (n := (k : Int) + 1) (by omega)) rfl fun _ => nE _ _ _ ?_ ⟨g3, it, k + 1, a8, a6, a7, dt, _, (fT (hf) hg), (HS.sub h6 (a05 _ _)), c8, ea, ⟨rfl, rfl, rfl, rfl, rfl, rfl, rfl, trivial⟩, rfl, (rw_e0 mS (show (c.blocks.getD k default).ins.length = n by omega)), (by omega)⟩
  omega
 have lw := ja
 try simp only [BS] at lw
 refine aa (wUo 2 0 [(1, .o (iI c.regs))] 102 103 [] [(103, (iI c.regs))] (ql 3 1 (HS.hc ht (i := 0) rfl) rfl rfl) rfl fun _ => aH (dg (default : Hd) ht rfl rfl rfl rfl rfl rfl rfl rfl rfl rfl (by omega) (by omega)) rfl rfl ?_)
 rintro _ oG mp ⟨lq, mk, rfl, mC, (mG : HS _ _ _ [_, a0, c3, [(J, .cells [(.slice an c4.length ar)] none false)], _, mp] _), _⟩
 have g8 := HS.snoc mG
 have g8 : HS _ _ _ [_, _, _, _, _, _, []] _ := g8
 have kW : SF ln (List.replicate c.regs.toNat (default : Hd)) (List.replicate c.regs.toNat ([] : List Int)) [] := SF.rep _
 have n9 := FAM.len kW
 refine wa (.slice lq (List.replicate c.regs.toNat (default : Hd)).length mk) rfl rfl rfl (ae 3 rfl (wU 2 [(0, .o (.slice an c4.length ar))] 105 107 [] [(106, (iI (c4.length : Int))), (107, (iI 0))] (ql 85 0 (HS.hc g8 (i := 3) rfl) rfl rfl) rfl fun _ => aj (fun (mm : Nat) f H' => ∃ (hA : List Hd) (ld : List (List U64)) (oh : List Hd) (ol : List (List Int)) (k : Nat) (a4 : Option Addr) (a5 : Nat) (c0 : Fp) (bz : Fp) (bb : Option Addr) (bl : Nat) (e1 : Fp) (dn : Fp) (F' : Fz), Fz.le ln F' ∧ HS (Base.of H []) F' H' [g4, bz, dn, [(J, .cells [(.slice bb hA.length bl)] none false)], g0, c0, e1] R ∧ OS F' (.slice a4 oh.length a5) oh c0 ∧ OS F' (.slice bb hA.length bl) hA bz ∧ SF F' oh ol e1 ∧ SF F' hA ld dn ∧ aD f [(1, (.pointer (some ⟨b1, 0, none⟩))), (3, (.pointer (some ⟨J, 0, none⟩))), (15, (.slice a4 oh.length a5)), (106, (iI (c4.length : Int))), (107, (iI (k : Int)))] ∧ mm = c.regs.toNat - k ∧ (RwF c ld (intE c)) ∧ (ol.length = c.regs.toNat) ∧ (∀ r, r < k → Lst (cN ol r) (Sy (intE c) r)) ∧ (∀ r, k ≤ r → cN ol r = []) ∧ (k ≤ c.regs.toNat)) _ ⟨c4, il, List.replicate c.regs.toNat (default : Hd), List.replicate c.regs.toNat ([] : List Int), 0, lq, mk, mp, a0, an, ar, [], c3, _, fR, g8, mC, f9, kW, hu, ⟨rfl, rfl, rfl, rfl, rfl, trivial⟩, rfl, (rw_last ms (by omega)), (by simp), (by intro r hr; omega), (fun r _ => row_rep), (by omega)⟩ ?_))
 rintro oC oW oH ⟨hA, ld, oh, ol, k, a4, a5, c0, bz, bb, bl, e1, dn, mX, kS, k5, d2, h8, ez, hB, kX, rfl, mU, nZ, mN, mO, hk⟩ mK
 refine au _ kX (fun _ => ?_)
 clear kX
 have m7 := FAM.len ez
 have m0 := FAM.len hB
 refine ah 1 rfl (wT 2 [] 108 108 [] [(108, (.bool (decide ((k : Int) < (c4.length : Int)))))] rfl fun _ => am 4 5 (v := (decide ((k : Int) < (c4.length : Int)))) rfl rfl rfl rfl (fun hF => ?_) (fun hF => ?_))
 ·
  have iz := hF
  try simp only [BS] at iz
  have pd := mU.len
  refine wT 2 [] 109 109 [16] [(16, (iI (k : Int)))] rfl fun _ => wT 2 [] 1 0 [17] [(17, (iI 0))] rfl fun _ => aj (fun (mm : Nat) f H' => ∃ (ch : List Hd) (dv : List (List U64)) (a2 : List Hd) (cc : List (List Int)) (n : Nat) (U : Option Addr) (V : Nat) (b2 : Fp) (av : Fp) (Y : Option Addr) (ad : Nat) (ci : Fp) (e2 : Fp) (F' : Fz), Fz.le mX F' ∧ HS (Base.of H []) F' H' [g4, av, e2, [(J, .cells [(.slice Y ch.length ad)] none false)], g0, b2, ci] R ∧ OS F' (.slice U a2.length V) a2 b2 ∧ OS F' (.slice Y ch.length ad) ch av ∧ SF F' a2 cc ci ∧ SF F' ch dv e2 ∧ aD f [(1, (.pointer (some ⟨b1, 0, none⟩))), (3, (.pointer (some ⟨J, 0, none⟩))), (15, (.slice U a2.length V)), (16, (iI (k : Int))), (17, (iI (n : Int))), (106, (iI (c4.length : Int))), (107, (iI (k : Int)))] ∧ mm = c.regs.toNat - n ∧ (RwF c dv (intE c)) ∧ (cc.length = c.regs.toNat) ∧ (∀ r, r < k → Lst (cN cc r) (Sy (intE c) r)) ∧ (∀ r, k < r → cN cc r = []) ∧ (Lst (cN cc k) (upS dv k n)) ∧ (n ≤ c.regs.toNat)) _ ⟨hA, ld, oh, ol, 0, a4, a5, c0, bz, bb, bl, e1, dn, _, fR, k5, d2, h8, ez, hB, ⟨rfl, rfl, rfl, rfl, rfl, rfl, rfl, trivial⟩, rfl, (mU), (by omega), (mN), (fun r hr => mO r (by omega)), (by rw [mO k (a08 _)]; exact up_zero), (by omega)⟩ ?_
  rintro oD oX oI ⟨ch, dv, a2, cc, n, U, V, b2, av, Y, ad, ci, e2, lm, hI, et, b0, bk, e0, f8, kY, rfl, hD, mP, lW, lX, k4, hn⟩ la
  refine au _ kY (fun _ => ?_)
  clear kY
  have ne := FAM.len e0
  have m8 := FAM.len f8
  have nr := hD.len
  have nt := hD.row k (by omega)
  have o6 : ((cc.getD k default).length : Int) ≤ c.regs := Lst.len k4 hrg.1 (fun r h => by have := h.2; omega)
  refine ah 2 rfl (wU 1 [(2, .o (iI c.regs))] 110 113 [] [(113, (.bool (decide ((n : Int) < c.regs))))] (ql 3 1 (HS.hc et (i := 0) rfl) rfl rfl) rfl fun _ => am 4 5 (v := (decide ((n : Int) < c.regs))) rfl rfl rfl rfl (fun hG => ?_) (fun hG => ?_))
  ·
   have i1 := hG
   try simp only [BS] at i1
   have nr := hD.len
   have nt := hD.row k (by omega)
   obtain ⟨n6, mI⟩ := Sv.view (OS.sv bk et (i := 1) rfl)
   obtain ⟨mw, kn, c5, d1, kz⟩ := SF.open f8 et (q := 2) (i := k) rfl (by omega)
   have c5 : HS _ _ _ [_, av, mw, [(J, .cells [(.slice Y ch.length ad)] none false)], _, b2, ci, kn] _ := c5
   have d1 : OS lm (.slice (ch.getD k default).a (ch.getD k default).n (ch.getD k default).k) (dv.getD k default) kn := d1
   have oz := OS.nlen d1
   obtain ⟨n7, k8⟩ := Sv.view (OS.sv d1 c5 (i := 7) rfl)
   have o3 := fU (k8 (n / 64))
   refine wR 1 [(0, .o (.slice Y ch.length ad)), (3, .o (.slice (ch.getD k default).a (ch.getD k default).n (ch.getD k default).k)), (7, .o (.int .u64 ((dv.getD k default).getD (n / 64) default).n))] 116 129 [] [(129, (.bool (aR .and .u64 (Int.fdiv ((dv.getD k default).getD (n / 64) default).n (2 ^ (Nat.min (n % 64) 64))) 1 == 1)))] (vA (ql 85 0 (HS.hc et (i := 3) rfl) rfl rfl) (vA (Sv.ix (j := (k : Int)) (OS.sv bk et (i := 1) rfl) (by omega) (by omega)) (vA (ql 86 0 (vH (mI k) (by omega)) rfl rfl) (vA (vA (show (64 : Int) ≠ 0 from by decide) (vi (n := ((n / 64 : Nat) : Int)) (by omega))) (vA (Sv.ix (j := ((n / 64 : Nat) : Int)) (OS.sv d1 c5 (i := 7) rfl) (by omega) (by omega)) (vA (ql 87 0 (vU (k8 (n / 64)) (by omega)) rfl rfl) (vA (show (64 : Int) ≠ 0 from by decide) (vA (vu (n := ((n % 64 : Nat) : Int)) (by omega)) (vA (show (0 : Int) ≤ ((n % 64 : Nat) : Int) from by omega) trivial))))))))) rfl fun _ => am 0 2 (v := (aR .and .u64 (Int.fdiv ((dv.getD k default).getD (n / 64) default).n (2 ^ (Nat.min (n % 64) 64))) 1 == 1)) rfl rfl rfl rfl (fun hH => ?_) (fun hH => ?_)
   ·
    have i2 := hH
    try simp only [BS] at i2
    have hbit := ig (s := dv.getD k default) (k := n / 64) (b := n % 64) (by assumption) (by omega)
    rw [show 64 * (n / 64) + n % 64 = n by omega] at hbit
    refine aa ?_
    obtain ⟨n8, mJ⟩ := Sv.view (OS.sv b0 c5 (i := 5) rfl)
    obtain ⟨mx, ko, hV, g5, my⟩ := SF.open e0 c5 (q := 6) (i := k) rfl (by omega)
    have hV : HS _ _ _ [_, _, _, _, _, _, mx, _, ko] _ := hV
    have g5 : OS lm (.slice (a2.getD k default).a (a2.getD k default).n (a2.getD k default).k) (cc.getD k default) ko := g5
    have oA := OS.nlen g5
    refine wRo 7 0 [(5, .o (.slice (a2.getD k default).a (a2.getD k default).n (a2.getD k default).k))] 130 136 [] [(130, (.slice U a2.length V)), (131, (iI (k : Int))), (135, (.slice (a2.getD k default).a (a2.getD k default).n (a2.getD k default).k)), (136, (iI (n : Int)))] (vA (Sv.ix (j := (k : Int)) (OS.sv b0 c5 (i := 5) rfl) (by omega) (by omega)) (vA (ql 25 0 (vH (mJ k) (by omega)) rfl rfl) trivial)) rfl fun _ => aH (bu (α := Int) (ps := [(0, (iI (n : Int)))]) (cells := [(iI (n : Int))]) ([(n : Int)] : List Int) hV rfl rfl rfl (by kernel_rfl) ⟨[(iI (n : Int))], [], rfl, ⟨rfl, by omega⟩, rfl⟩ rfl) rfl rfl ?_
    rintro _ oJ nK ⟨oO, pf, rfl, mD, (k6 : HS _ _ _ [_, _, _, _, _, _, _, _, _, nK] _), _⟩
    refine aH (bC (α := Int) (q := 8) g5 k6 rfl rfl rfl (OS.sv mD k6 (i := 9) rfl) rfl rfl rfl rfl rfl rfl rfl (by (simp only [a06, a0a, a0g]; omega))) rfl rfl ?_
    rintro _ oK nL ⟨hE, h7, rfl, mE, (k7 : HS _ _ _ [_, _, _, _, _, _, _, _, nL, _] _), _⟩
    refine wUo 1 9 [] 139 139 [] [(139, (.pointer (some ⟨sB (.slice U a2.length V), sO (.slice U a2.length V) + k * Rp.sz Hd, none⟩)))] (Sv.ix (j := (k : Int)) (OS.sv b0 k7 (i := 5) rfl) (by omega) (by omega)) rfl fun _ => ?_
    obtain ⟨kr, hW, kZ⟩ := SF.shutN (⟨hE, ((cc.getD k default) ++ ([(n : Int)] : List Int)).length, h7⟩ : Hd) my fR k7 (q := 6) (m := 8) (by decide) rfl rfl mE
    have hW : HS _ _ _ [_, _, _, _, _, _, kr, _, [], _] _ := hW
    have oa := FAM.len kZ
    refine aL (bY (α := Hd) (j := k) (off := 0) (q := 5) (⟨hE, ((cc.getD k default) ++ ([(n : Int)] : List Int)).length, h7⟩ : Hd) b0 hW rfl rfl rfl rfl rfl rfl rfl rfl (aK (x := default) (by omega)) rfl (by rintro cs rfl; exact ⟨a04 rfl, rfl⟩)) rfl ?_
    rintro _ oL mq ⟨hS, (mH : HS _ _ _ [_, _, _, _, _, mq, _, _, _, _] _), _⟩
    have nY := OS.len' hS
    refine ae 2 rfl (wU 1 [] 114 115 [17] [(17, (iI ((n : Int) + 1)))] (vi (n := (n : Int) + 1) (by omega)) rfl fun _ => ?_)
    obtain ⟨kx, hX, k0⟩ := SF.shut0 kz fR mH (q := 2) (m := 7) (by decide) rfl rfl d1
    have hX : HS _ _ _ [_, _, kx, _, _, _, _, [], _, _] _ := hX
    have ob := FAM.len k0
    refine la _ _ _ ?_ ⟨ch, dv, a2.set k (⟨hE, ((cc.getD k default) ++ ([(n : Int)] : List Int)).length, h7⟩ : Hd), cc.set k ((cc.getD k default) ++ ([(n : Int)] : List Int)), n + 1, U, V, mq, av, Y, ad, kr, kx, _, (hI), (HS.sub hX (a05 _ _)), (OS.norm hS), bk, kZ, k0, (agC rfl (agC rfl (agC (show Value.slice U a2.length V = Value.slice U (a2.set k (⟨hE, ((cc.getD k default) ++ ([(n : Int)] : List Int)).length, h7⟩ : Hd)).length V by rw [OS.len' hS]) ⟨rfl, rfl, rfl, rfl, trivial⟩))), rfl, (by assumption), (by (rw [a0i]; exact mP)), (fun r hr => by (rw [cw (by omega), if_neg (by omega)]; exact lW r hr)), (fun r hr => by (rw [cw (by omega), if_neg (by omega)]; exact lX r hr)), (by (rw [cw (by omega), if_pos rfl]; exact up_yes k4 (hbit.1 (by assumption)))), (by omega)⟩
    omega
   have i2 := hH
   try simp only [BS] at i2
   have hbit := ig (s := dv.getD k default) (k := n / 64) (b := n % 64) (by assumption) (by omega)
   rw [show 64 * (n / 64) + n % 64 = n by omega] at hbit
   refine wU 1 [] 114 115 [17] [(17, (iI ((n : Int) + 1)))] (vi (n := (n : Int) + 1) (by omega)) rfl fun _ => ?_
   obtain ⟨ky, hY, k3⟩ := SF.shut0 kz fR c5 (q := 2) (m := 7) (by decide) rfl rfl d1
   have hY : HS _ _ _ [_, _, ky, _, _, _, _, []] _ := hY
   have oc := FAM.len k3
   refine la _ _ _ ?_ ⟨ch, dv, a2, cc, n + 1, U, V, b2, av, Y, ad, ci, ky, _, (hI), (HS.sub hY (a05 _ _)), b0, bk, e0, k3, ⟨rfl, rfl, rfl, rfl, rfl, rfl, rfl, trivial⟩, rfl, (by assumption), (mP), (fun r hr => by exact lW r hr), (fun r hr => by exact lX r hr), (up_no k4 (fun h => absurd (hbit.2 h) (by assumption))), (by omega)⟩
   omega
  have i1 := hG
  try simp only [BS] at i1
  refine wU 1 [] 107 107 [140] [(107, (iI ((k : Int) + 1)))] (vi (n := (k : Int) + 1) (by omega)) rfl fun _ => mK _ _ _ ?_ ⟨ch, dv, a2, cc, k + 1, U, V, b2, av, Y, ad, ci, e2, _, (fT (kS) hI), et, b0, bk, e0, f8, ⟨rfl, rfl, rfl, rfl, rfl, trivial⟩, rfl, (hD), (by omega), (fin_row hD (by omega) vF (by omega) lW k4), (fun r hr => lX r (by omega)), (by omega)⟩
  omega
 have iz := hF
 try simp only [BS] at iz
 refine wT 1 [] 2 2 [141] [(2, (.slice a4 oh.length a5))] rfl fun _ => ?_
 obtain ⟨oE, kT, h1, mz⟩ := SF.freeze ez k5 (q := 6) rfl
 have h1 : HS _ _ _ [_, bz, dn, [(J, .cells [(.slice bb hA.length bl)] none false)], _, c0, _] _ := h1
 replace d2 := d2.mono kT
 obtain ⟨oF, kU, h3, mF, ox⟩ := OS.frz d2 h1 (i := 5) rfl
 have h3 : HS _ _ _ [_, _, _, _, _, [], _] _ := h3
 have g6 := SR.rows mF (FAM.len ez) (fun i hi => SR.mono kU (mz i hi))
 have oB := SR.len' g6
 have n2 := SR.norm g6
 refine ak ⟨.inr rfl, _, rfl, a4, a5, ol, _, (fT (fT (fT (fT (fT (fT (kV) hK) hb) hf) kS) kT) kU), (HS.forget h3), (Eq.trans (b := Value.slice a4 oh.length a5) rfl (by rw [SR.len' g6])), (SR.norm g6), (fun _ => inf_of nZ (by omega) mN), (fun h => absurd (hv.symm.trans h) (by decide))⟩
end Go.Proofs.YtknafdcgpaejlaaDoor.nb
