/-
 Interference: the allocator, by a symbolic run. No condition but bounds on lengths.
-/
import Derived.Test.YtknafdcgpaejlaaDoorZUNA
import Derived.Test.YtknafdcgpaejlaaDoorZURD
import Derived.Test.YtknafdcgpaejlaaDoorZURC
noncomputable section
namespace Go.Proofs.YtknafdcgpaejlaaDoor.nb
open Go.R
set_option maxRecDepth 10000
set_option linter.unusedVariables false
set_option linter.unusedSimpArgs false
variable (ex : FuncId) {F : Fz} {H : Heap} {R : List Fp}
open m1 m2 m3 m4 m5 m6 ma ml mb mc md mf mg mh mi mj na
abbrev insN (c : VFnT) (b i : Nat) : VInT := (bA c b).ins.getD i default
def eok (c : VFnT) (b i : Nat) (a x : Int) : Prop := x ≠ a ∧ ¬ ((insN c b i).i.op = 10 ∧ x = (insN c b i).i.b)
def edg (c : VFnT) (b i a x : Nat) : Prop := (a : Int) ∈ ab (insN c b i) ∧ ptS c b (i + 1) x ∧ eok c b i a x
def E0 (c : VFnT) (k a x : Nat) : Prop := ∃ b i, b < k ∧ i < (bA c b).ins.length ∧ edg c b i a x
def E1 (c : VFnT) (k n a x : Nat) : Prop := E0 c k a x ∨ ∃ i, i < n ∧ edg c k i a x
def E2 (c : VFnT) (k n q a x : Nat) : Prop := E1 c k n a x ∨ ((a : Int) ∈ (ab (insN c k n)).take q ∧ ptS c k (n + 1) x ∧ eok c k n a x)
def E3 (c : VFnT) (k n q : Nat) (l : List Int) (p a x : Nat) : Prop := E2 c k n q a x ∨ ((a : Int) = (ab (insN c k n)).getD q 0 ∧ (x : Int) ∈ l.take p ∧ eok c k n a x)
def j9 (c : VFnT) (a x : Nat) : Prop := E0 c c.blocks.length a x
def Sy (R : Nat → Nat → Prop) (r y : Nat) : Prop := R r y ∨ R y r
theorem Sy.iff {R R' : Nat → Nat → Prop} (h : ∀ a x, R a x ↔ R' a x) (r y : Nat) : Sy R r y ↔ Sy R' r y := or_congr (h r y) (h y r)
structure RwF (c : VFnT) (rl : List (List U64)) (R : Nat → Nat → Prop) : Prop where
 len : rl.length = c.regs.toNat
 row : ∀ r, r < c.regs.toNat → (rl.getD r default).length = wds c
 bit : ∀ r, r < c.regs.toNat → ∀ y, bI rl r y ↔ Sy R r y
theorem RwF.iff {c : VFnT} {rl : List (List U64)} {R R' : Nat → Nat → Prop} (h : RwF c rl R) (k : ∀ a x, R a x ↔ R' a x) : RwF c rl R' := ⟨h.len, h.row, fun r hr y => (h.bit r hr y).trans (Sy.iff k r y)⟩
theorem rw_zero {c : VFnT} {rl : List (List U64)} {k : Nat} (hl : rl.length = c.regs.toNat) (hk : c.regs.toNat ≤ k) (h : ∀ j, j < k → rl.getD j default = List.replicate (wds c) ⟨0⟩) : RwF c rl (E0 c 0) := by
 refine ⟨hl, fun r hr => by rw [h r (by omega), a0I], fun r hr y => ?_⟩
 unfold bI
 rw [h r (by omega), bit_rep]
 constructor
 ·
  intro h; cases h
 rintro (⟨b, _, h, _⟩ | ⟨b, _, h, _⟩) <;> exact absurd h (a1f _)
theorem rw_e0 {c : VFnT} {rl : List (List U64)} {k n : Nat} (h : RwF c rl (E1 c k n)) (hn : (bA c k).ins.length = n) : RwF c rl (E0 c (k + 1)) := h.iff fun a x => by
 unfold E1 E0
 constructor
 ·
  rintro (⟨b, i, E, A⟩ | ⟨i, E, A⟩)
  ·
   exact ⟨b, i, by omega, A⟩
  exact ⟨k, i, Nat.lt_succ_self _, by omega, A⟩
 rintro ⟨b, i, E, A, J⟩
 rcases a0j b k with hb | hb
 ·
  exact .inl ⟨b, i, hb, A, J⟩
 have : b = k := by omega
 subst this; exact .inr ⟨i, by omega, J⟩
theorem rw_e1 {c : VFnT} {rl : List (List U64)} {k : Nat} (h : RwF c rl (E0 c k)) : RwF c rl (E1 c k 0) := h.iff fun a x => ⟨.inl, fun h => h.elim id fun ⟨i, h, _⟩ => absurd h (a1f _)⟩
theorem rw_e1s {c : VFnT} {rl : List (List U64)} {k n q : Nat} (h : RwF c rl (E2 c k n q)) (hq : (ab (insN c k n)).length ≤ q) : RwF c rl (E1 c k (n + 1)) := h.iff fun a x => by
 unfold E2 E1
 rw [a0f hq]
 constructor
 ·
  rintro ((h | ⟨i, E, A⟩) | h)
  ·
   exact .inl h
  ·
   exact .inr ⟨i, by omega, A⟩
  exact .inr ⟨n, Nat.lt_succ_self _, h⟩
 rintro (h | ⟨i, E, A⟩)
 ·
  exact .inl (.inl h)
 rcases a0j i n with hi | hi
 ·
  exact .inl (.inr ⟨i, hi, A⟩)
 have : i = n := by omega
 subst this; exact .inr A
theorem rw_e2 {c : VFnT} {rl : List (List U64)} {k n : Nat} (h : RwF c rl (E1 c k n)) : RwF c rl (E2 c k n 0) := h.iff fun a x => ⟨.inl, fun h => h.elim id fun h => by simp at h⟩
theorem rw_e2s {c : VFnT} {rl : List (List U64)} {k n q p : Nat} {l : List Int} (hl : Lst l (ptS c k (n + 1))) (h : RwF c rl (E3 c k n q l p)) (hq : q < (ab (insN c k n)).length) (hp : l.length ≤ p) : RwF c rl (E2 c k n (q + 1)) := h.iff fun a x => by
 unfold E3 E2
 rw [a0f hp, bj hq (d := 0), a04, a0d, hl.mem]
 have e : ((x : Int)).toNat = x := by omega
 rw [e]
 constructor
 ·
  rintro ((h | ⟨A, E, J⟩) | ⟨A, ⟨_, E⟩, J⟩)
  ·
   exact .inl h
  ·
   exact .inr ⟨.inl A, E, J⟩
  exact .inr ⟨.inr A, E, J⟩
 rintro (h | ⟨A | A, E, J⟩)
 ·
  exact .inl (.inl h)
 ·
  exact .inl (.inr ⟨A, E, J⟩)
 exact .inr ⟨A, ⟨by omega, E⟩, J⟩
theorem rw_e3 {c : VFnT} {rl : List (List U64)} {k n q : Nat} {l : List Int} (h : RwF c rl (E2 c k n q)) : RwF c rl (E3 c k n q l 0) := h.iff fun a x => ⟨.inl, fun h => h.elim id fun h => by simp at h⟩
theorem e3_step {c : VFnT} {k n q p : Nat} {l : List Int} (hp : p < l.length) (a x : Nat) : E3 c k n q l (p + 1) a x ↔ (E3 c k n q l p a x ∨ ((a : Int) = (ab (insN c k n)).getD q 0 ∧ (x : Int) = l.getD p 0 ∧ eok c k n a x)) := by
 unfold E3
 rw [bj hp (d := 0), a04, a0d]
 constructor
 ·
  rintro (h | ⟨E, A | A, J⟩)
  ·
   exact .inl (.inl h)
  ·
   exact .inl (.inr ⟨E, A, J⟩)
  exact .inr ⟨E, A, J⟩
 rintro ((h | ⟨E, A, J⟩) | ⟨E, A, J⟩)
 ·
  exact .inl h
 ·
  exact .inr ⟨E, .inl A, J⟩
 exact .inr ⟨E, .inr A, J⟩
theorem rw_no {c : VFnT} {rl : List (List U64)} {k n q p : Nat} {l : List Int} (hp : p < l.length) (h : RwF c rl (E3 c k n q l p)) (hn : ¬ eok c k n ((ab (insN c k n)).getD q 0) (l.getD p 0)) : RwF c rl (E3 c k n q l (p + 1)) := h.iff fun a x => by
 rw [e3_step hp]
 exact ⟨.inl, fun h => h.elim id fun ⟨E, J, A⟩ => absurd (by rw [E, J] at A; exact A) hn⟩
structure Con (rl rl' : List (List U64)) (a x : Int) : Prop where
 len : rl'.length = rl.length
 row : ∀ r, (rl'.getD r default).length = (rl.getD r default).length
 bit : ∀ r y, bI rl' r y ↔ (bI rl r y ∨ (r = a.toNat ∧ y = x.toNat) ∨ (r = x.toNat ∧ y = a.toNat))
theorem eok_of {c : VFnT} {k n : Nat} {a x : Int} (h : eok c k n a x) (ha : 0 ≤ a) (hx : 0 ≤ x) : eok c k n ((a.toNat : Nat) : Int) ((x.toNat : Nat) : Int) := by rwa [a10 ha, a10 hx]
theorem rw_yes {c : VFnT} {rl rl' : List (List U64)} {k n q p : Nat} {l : List Int} (hp : p < l.length) (h : RwF c rl (E3 c k n q l p)) (hc : Con rl rl' ((ab (insN c k n)).getD q 0) (l.getD p 0)) (ha : 0 ≤ (ab (insN c k n)).getD q 0) (hx : 0 ≤ l.getD p 0) (hn : eok c k n ((ab (insN c k n)).getD q 0) (l.getD p 0)) : RwF c rl' (E3 c k n q l (p + 1)) := by
 refine ⟨hc.len.trans h.len, fun r hr => (hc.row r).trans (h.row r hr), fun r hr y => ?_⟩
 rw [hc.bit, h.bit r hr]
 unfold Sy
 rw [e3_step hp, e3_step hp]
 constructor
 ·
  rintro ((A | A) | ⟨A, E⟩ | ⟨A, E⟩)
  ·
   exact .inl (.inl A)
  ·
   exact .inr (.inl A)
  ·
   subst A E; exact .inl (.inr ⟨by omega, by omega, eok_of hn ha hx⟩)
  subst A E; exact .inr (.inr ⟨by omega, by omega, eok_of hn ha hx⟩)
 rintro ((A | ⟨A, E, _⟩) | (A | ⟨A, E, _⟩))
 ·
  exact .inl (.inl A)
 ·
  exact .inr (.inl ⟨by omega, by omega⟩)
 ·
  exact .inl (.inr A)
 exact .inr (.inr ⟨by omega, by omega⟩)
theorem con_two {rl : List (List U64)} {a b : Int} {A E : List U64} (ha : a.toNat < rl.length) (hb : b.toNat < rl.length) (hab : a.toNat ≠ b.toNat) (l1 : A.length = (rl.getD a.toNat default).length) (Z : E.length = ((rl.set a.toNat A).getD b.toNat default).length)
  (h1 : ∀ i, aB A i = (aB (rl.getD a.toNat default) i || decide (i = b.toNat))) (V : ∀ i, aB E i = (aB ((rl.set a.toNat A).getD b.toNat default) i || decide (i = a.toNat))) : Con rl ((rl.set a.toNat A).set b.toNat E) a b := by
 have U : ∀ r, (rl.set a.toNat A).getD r default = if a.toNat = r then A else rl.getD r default := fun r => by
  rw [df]
  by_cases h : a.toNat = r
  ·
   subst h; rw [if_pos ⟨rfl, ha⟩, if_pos rfl]
  rw [if_neg (fun e => h e.1), if_neg h]
 rw [U, if_neg hab] at Z V
 have e : ∀ r, ((rl.set a.toNat A).set b.toNat E).getD r default = if b.toNat = r then E else if a.toNat = r then A else rl.getD r default := fun r => by
  rw [df, U]
  by_cases h : b.toNat = r
  ·
   subst h; rw [if_pos ⟨rfl, by rw [a0h]; exact hb⟩, if_pos rfl]
  rw [if_neg (fun e => h e.1), if_neg h]
 refine ⟨by rw [a0h, a0h], fun r => ?_, fun r y => ?_⟩
 ·
  rw [e]
  split
  ·
   rename_i h; subst h; exact Z
  split
  ·
   rename_i h; subst h; exact l1
  rfl
 unfold bI
 rw [e]
 by_cases h : b.toNat = r
 ·
  subst h
  rw [if_pos rfl, V, a0H, decide_eq_true_eq]
  constructor
  ·
   rintro (h | h)
   ·
    exact .inl h
   exact .inr (.inr ⟨rfl, h⟩)
  rintro (h | ⟨h, _⟩ | ⟨_, h⟩)
  ·
   exact .inl h
  ·
   exact absurd h.symm hab
  exact .inr h
 rw [if_neg h]
 by_cases J : a.toNat = r
 ·
  subst J
  rw [if_pos rfl, h1, a0H, decide_eq_true_eq]
  constructor
  ·
   rintro (h | h)
   ·
    exact .inl h
   exact .inr (.inl ⟨rfl, h⟩)
  rintro (h | ⟨_, h⟩ | ⟨h, _⟩)
  ·
   exact .inl h
  ·
   exact .inr h
  exact absurd h hab
 rw [if_neg J]
 exact ⟨.inl, fun N => N.elim id fun N => by rcases N with ⟨T, _⟩ | ⟨T, _⟩; exact absurd T.symm J; exact absurd T.symm h⟩
def upS (rl : List (List U64)) (k n y : Nat) : Prop := bI rl k y ∧ y < n
theorem up_zero {rl : List (List U64)} {k : Nat} : Lst [] (upS rl k 0) := Lst.nil fun r h => a1f _ h.2
theorem Lst.snoc {l : List Int} {S : Nat → Prop} {n : Nat} (h : Lst l S) (hb : ∀ y, S y → y < n) : Lst (l ++ [(n : Int)]) (fun y => S y ∨ y = n) := by
 refine ⟨a1Z.2 ⟨h.asc, List.pairwise_singleton _ _, fun x hx y hy => ?_⟩, fun x => ?_⟩
 ·
  rw [a0d] at hy; subst hy
  have := (h.mem x).1 hx
  have := hb _ this.2
  omega
 rw [a04, a0d, h.mem]
 constructor
 ·
  rintro (A | A)
  ·
   exact ⟨A.1, .inl A.2⟩
  exact ⟨by omega, .inr (by omega)⟩
 rintro ⟨A, E | E⟩
 ·
  exact .inl ⟨A, E⟩
 exact .inr (by omega)
theorem up_yes {rl : List (List U64)} {k n : Nat} {l : List Int} (h : Lst l (upS rl k n)) (hb : bI rl k n) : Lst (l ++ [(n : Int)]) (upS rl k (n + 1)) := Lst.ext (Lst.snoc h fun y hy => hy.2) fun y => by
 unfold upS
 constructor
 ·
  rintro (⟨A, J⟩ | rfl)
  ·
   exact ⟨A, by omega⟩
  exact ⟨hb, Nat.lt_succ_self _⟩
 rintro ⟨A, J⟩
 rcases a0j y n with E | E
 ·
  exact .inl ⟨A, E⟩
 exact .inr (by omega)
theorem up_no {rl : List (List U64)} {k n : Nat} {l : List Int} (h : Lst l (upS rl k n)) (hb : ¬ bI rl k n) : Lst l (upS rl k (n + 1)) := Lst.ext h fun y => by
 unfold upS
 constructor
 ·
  rintro ⟨A, J⟩; exact ⟨A, by omega⟩
 rintro ⟨A, J⟩
 refine ⟨A, ?_⟩
 rcases a0j y n with E | E
 ·
  exact E
 have : y = n := by omega
 subst this; exact absurd A hb
theorem rw_last {c : VFnT} {rl : List (List U64)} {k : Nat} (h : RwF c rl (E0 c k)) (hk : k = c.blocks.length) : RwF c rl (j9 c) := by subst hk; exact h
theorem row_rep {n r : Nat} : cN (List.replicate n ([] : List Int)) r = [] := by
 unfold cN
 rw [a01, a1i]
 split <;> rfl
structure InF (c : VFnT) (g : List (List Int)) : Prop where
 len : g.length = c.regs.toNat
 row : ∀ r, r < c.regs.toNat → Lst (cN g r) (Sy (j9 c) r)
theorem inf_of {c : VFnT} {g : List (List Int)} {k : Nat} (hl : g.length = c.regs.toNat) (hk : c.regs.toNat ≤ k) (h : ∀ r, r < k → Lst (cN g r) (Sy (j9 c) r)) : InF c g := ⟨hl, fun r hr => h r (by omega)⟩
theorem fin_row {c : VFnT} {rl : List (List U64)} {g : List (List Int)} {k n : Nat} (h : RwF c rl (j9 c)) (hk : k < c.regs.toNat) (v : VF c) (hn : c.regs.toNat ≤ n) (hg : ∀ r, r < k → Lst (cN g r) (Sy (j9 c) r)) (hu : Lst (cN g k) (upS rl k n)) : ∀ r, r < k + 1 → Lst (cN g r) (Sy (j9 c) r) := fun r hr => by
 rcases a0j r k with A | A
 ·
  exact hg r A
 have : r = k := by omega
 subst this
 refine Lst.ext hu fun y => ?_
 unfold upS
 rw [h.bit r hk]
 refine ⟨fun h => h.1, fun hy => ⟨hy, ?_⟩⟩
 have hlt : ∀ a x, j9 c a x → (a : Int) < c.regs ∧ (x : Int) < c.regs := fun a x ⟨b, i, A, E, J, N, _⟩ => ⟨((bV (v.ins b A i E)).2.1 _ J).2, gX v A N⟩
 rcases hy with hy | hy
 ·
  have := hlt _ _ hy; omega
 have := hlt _ _ hy; omega
set_option maxHeartbeats 4000000 in
theorem inter_c {ci : Option Addr} {co : Nat} (c : VFnT) (hs : HS (.of H []) F H [] R) (o4 : in64 c.params) (o5 : in64 c.regs) (dk : SR F (.slice ci c.blocks.length co) c.blocks) (hT : TB 37 tabC F) (hins : ∀ j, (c.blocks.getD j default).ins.length ≤ 1073741822) : kKt ex 20 [(.agg ⟨[(iI c.params), (iI c.regs), (.slice ci c.blocks.length co)]⟩)] H fun v H' => ∃ (ag : Option Addr) (kg : Nat) (g : List (List Int)) (F' : Fz), Fz.le F F' ∧ HS (.of H []) F' H' [] R ∧ v = .slice ag g.length kg ∧ SR F' (.slice ag g.length kg) g ∧ (d6 c = true → InF c g) ∧ (d6 c = false → g = []) := by
 refine aH Tryd.func20 rfl rfl (ah 1 rfl (aa (aG (bG hs rfl rfl) rfl rfl ?_)))
 rintro _ H2 _ ⟨b1, rfl, (l1 : HS _ _ _ [[(b1, .cells [(iI c.params), (iI c.regs), (.slice ci c.blocks.length co)] none false)]] _), _⟩
 let ll : Value := (.agg ⟨[(iI c.params), (iI c.regs), (.slice ci c.blocks.length co)]⟩)
 refine wa (.slice none 0 0) rfl rfl rfl (ae 3 rfl (aa (wUo 1 0 [(0, .o ll)] 18 18 [] [(18, ll)] (qn 24 0 3 (HS.hc l1 (i := 0) rfl) rfl rfl rfl rfl) rfl fun _ => aA (aq rfl rfl rfl) rfl rfl (m3.iD ex c (HS.call l1) (by omega) (by omega) dk hT (by exact fun j => a0c (hins j) (by omega))) ?_)))
 rintro _ H4 ⟨r4, F4, kX, ik, rfl, rfl⟩
 replace ik : HS _ _ _ [_] _ := HS.back l1 rfl ik
 replace hT := hT.mono kX
 replace dk := dk.mono kX
 refine wTo 1 2 [] 20 20 [] [(20, (.bool (!(d6 c))))] rfl fun _ => ae 1 rfl (am 1 2 (v := (!(d6 c))) rfl rfl rfl rfl (fun lF => ?_) (fun lF => ?_))
 ·
  have c6 := lF
  try simp only [BS] at c6
  have hv := c6
  refine wT 1 [] 2 2 [] [(2, (.slice none 0 0))] rfl fun _ => ak ⟨.inr rfl, _, rfl, none, 0, ([] : List (List Int)), _, (kX), (HS.forget ik), rfl, (SR.nil : SR F4 (.slice none 0 0) ([] : List (List Int))), (by exact fun h => absurd (h.symm.trans hv) (by decide)), (by exact fun _ => rfl)⟩
 have c6 := lF
 try simp only [BS] at c6
 have hv := c6
 have vF := iE hv
 have hnb := vF.nb
 have hrg := vF.regs
 have hwd := wd_le vF.regs
 have o8 : Int.tdiv (c.regs + 63) 64 = (c.regs + 63) / 64 := a12 (by omega)
 have o9 : (List.replicate c.regs.toNat (default : Hd)).length = c.regs.toNat := a0I
 refine aa (wUo 2 0 [(1, .o (iI c.regs))] 21 22 [] [(22, (iI c.regs))] (ql 3 1 (HS.hc ik (i := 0) rfl) rfl rfl) rfl fun _ => aG (cE (default : Hd) ik rfl rfl rfl rfl rfl rfl rfl rfl rfl rfl (by omega) (by omega)) rfl rfl ?_)
 rintro _ pz p9 ⟨a9, k9, rfl, n1, (nt : HS _ _ _ [_, p9] _), _⟩
 have kl := HS.snoc nt
 have kl : HS _ _ _ [_, _, []] _ := kl
 have lM : SF F4 (List.replicate c.regs.toNat (default : Hd)) (List.replicate c.regs.toNat ([] : List U64)) [] := SF.rep _
 have oY := FAM.len lM
 refine aG (bp kl rfl) rfl rfl ?_
 rintro _ pA _ ⟨N, rfl, (nv : HS _ _ _ [_, _, _, [(N, .cells [(.slice none 0 0)] none false)]] _), _⟩
 refine aN (aI (q := 3) nv rfl rfl rfl rfl rfl rfl rfl rfl rfl) rfl ?_
 rintro _ pB _ ⟨(l0 : HS _ _ _ [_, _, _, [(N, .cells [(.slice a9 (List.replicate c.regs.toNat (default : Hd)).length k9)] none false)]] _), _⟩
 let g6 : Fp := [(b1, .cells [(iI c.params), (iI c.regs), (.slice ci c.blocks.length co)] none false)]
 refine ae 3 rfl (wU 2 [(0, .o (.slice a9 (List.replicate c.regs.toNat (default : Hd)).length k9))] 24 26 [] [(25, (iI ((List.replicate c.regs.toNat (default : Hd)).length : Int))), (26, (iI 0))] (ql 85 0 (HS.hc l0 (i := 3) rfl) rfl rfl) rfl fun _ => aj (fun (mm : Nat) f H' => ∃ (rh : List Hd) (rl : List (List U64)) (k : Nat) (a0 : Fp) (T : Option Addr) (U : Nat) (ds : Fp) (F' : Fz), Fz.le F4 F' ∧ HS (Base.of H []) F' H' [g6, a0, ds, [(N, .cells [(.slice T rh.length U)] none false)]] R ∧ OS F' (.slice T rh.length U) rh a0 ∧ SF F' rh rl ds ∧ aD f [(1, (.pointer (some ⟨b1, 0, none⟩))), (3, (.pointer (some ⟨N, 0, none⟩))), (25, (iI ((List.replicate c.regs.toNat (default : Hd)).length : Int))), (26, (iI (k : Int)))] ∧ mm = c.regs.toNat - k ∧ (rl.length = c.regs.toNat) ∧ (k ≤ c.regs.toNat) ∧ (∀ j, j < k → rl.getD j default = List.replicate (wds c) ⟨0⟩)) _ ⟨List.replicate c.regs.toNat (default : Hd), List.replicate c.regs.toNat ([] : List U64), 0, p9, a9, k9, [], _, fR, l0, n1, lM, ⟨rfl, rfl, rfl, rfl, trivial⟩, rfl, (by simp), (by omega), (by intro j hj; omega)⟩ ?_)
 rintro pj pQ pC ⟨rh, rl, k, a0, T, U, ds, nS, hQ, e9, b5, em, lN, rfl, mN, p0, mR⟩ nD
 refine ap _ lN (fun _ => ?_)
 clear lN
 replace hT := hT.mono hQ
 replace dk := dk.mono hQ
 have nM := FAM.len em
 refine ah 1 rfl (wT 2 [] 27 27 [] [(27, (.bool (decide ((k : Int) < ((List.replicate c.regs.toNat (default : Hd)).length : Int)))))] rfl fun _ => am 4 5 (v := (decide ((k : Int) < ((List.replicate c.regs.toNat (default : Hd)).length : Int)))) rfl rfl rfl rfl (fun jb => ?_) (fun jb => ?_))
 ·
  have lz := jb
  try simp only [BS] at lz
  refine wT 1 [] 28 28 [4] [(4, (iI (k : Int)))] rfl fun _ => aS rfl (aF (v := (.slice T rh.length U)) (id := .l N) (aU (i := 0) rfl rfl (HS.hc e9.log0 (i := 3) rfl) rfl rfl) rfl rfl (bx rfl) trivial (fm (iI (k : Int)) rfl rfl rfl (wfv (v := (.pointer (some ⟨b1, 1, none⟩))) (bn rfl rfl) (aF (v := (iI c.regs)) (id := .l b1) (aU (i := 1) rfl rfl (HS.hc e9.log0 (i := 0) rfl) rfl rfl) rfl rfl (bx rfl) (kb rfl) ?_))))
  refine wfv (v := (iI (c.regs + 63))) (jQ rfl rfl (jT (n := c.regs + 63) (by omega))) ?_
  have pq : in64 (c.regs + 63) → in64 (Int.tdiv (c.regs + 63) 64) := fun h => vq h (by decide)
  refine wfv (v := (iI (Int.tdiv (c.regs + 63) 64))) (ap_div rfl rfl (by decide) (w_tdiv (by omega) (by decide))) (bM (id := .x []) (cE (⟨0⟩ : U64) e9.log0 rfl rfl rfl rfl rfl rfl rfl rfl rfl ⟨rfl, by decide⟩ (by omega) (by omega)) rfl rfl (by rintro _ _ mS ⟨ky, ld, rfl, lV, _, hwr⟩; exact bQ rfl rfl (Wr.did hwr)) (⟨.inl rfl, ⟨.inl rfl, ⟨.inl rfl, ⟨.inl rfl, ⟨.inr trivial, ⟨.inr a0i, trivial⟩⟩⟩⟩⟩⟩) ?_)
  rintro _ nW mS ⟨ky, ld, rfl, lV, fd, _⟩ nI mB
  replace fd := HS.lg fd e9 mB
  generalize ({ nW with log := nI } : Heap) = oM at fd ⊢
  have fd : HS _ _ _ [_, a0, ds, [(N, .cells [(.slice T rh.length U)] none false)], mS] _ := fd
  refine wfv (v := (.pointer (some ⟨sB (.slice T rh.length U), sO (.slice T rh.length U) + k * Rp.sz Hd, none⟩))) (bh (α := Hd) (j := (k : Int)) rfl rfl rfl rfl (OS.sv b5 fd.log0 (i := 1) rfl) (by omega) (by omega)) ?_
  obtain ⟨nh, lH, kn, ki, nl⟩ := SF.open em fd (q := 2) (i := k) rfl (by omega)
  have kn : HS _ _ _ [_, _, nh, _, _, lH] _ := kn
  have ki : OS nS (.slice (rh.getD k default).a (rh.getD k default).n (rh.getD k default).k) (rl.getD k default) lH := ki
  have pg := OS.nlen ki
  obtain ⟨lK, h5, lO⟩ := SF.shutN (⟨ky, (List.replicate (Int.tdiv (c.regs + 63) 64).toNat (⟨0⟩ : U64)).length, ld⟩ : Hd) nl fR kn (q := 2) (m := 4) (by decide) rfl rfl lV
  have h5 : HS _ _ _ [_, _, lK, _, [], _] _ := h5
  have oZ := FAM.len lO
  refine eN (id := .x (a0.map Prod.fst)) (db (α := Hd) (j := k) (off := 0) (q := 1) (⟨ky, (List.replicate (Int.tdiv (c.regs + 63) 64).toNat (⟨0⟩ : U64)).length, ld⟩ : Hd) b5 h5.log0 rfl rfl rfl rfl rfl rfl rfl rfl (aM (x := default) (by omega)) rfl (by rintro cs rfl; exact ⟨a07 rfl, rfl⟩)) rfl (by rintro _ _ ms ⟨kk, _, hwr⟩; exact bQ rfl rfl (Wr.did hwr)) (kb rfl) ?_
  rintro _ nX ms ⟨kk, f5, _⟩ nJ mC
  replace f5 := HS.lg f5 h5 mC
  generalize ({ nX with log := nJ } : Heap) = oN at f5 ⊢
  have f5 : HS _ _ _ [_, ms, _, _, _, _] _ := f5
  have ou := OS.len' kk
  refine bT (ah 2 rfl (wU 1 [] 26 26 [37] [(26, (iI ((k : Int) + 1)))] (vi (n := (k : Int) + 1) (by omega)) rfl fun _ => nD _ _ _ ?_ ⟨rh.set k (⟨ky, (List.replicate (Int.tdiv (c.regs + 63) 64).toNat (⟨0⟩ : U64)).length, ld⟩ : Hd), rl.set k (List.replicate (Int.tdiv (c.regs + 63) 64).toNat (⟨0⟩ : U64)), k + 1, ms, T, U, lK, _, (hQ), (by simpa only [a0h] using (HS.sub f5 (a03 _ _))), (OS.norm kk), lO, ⟨rfl, rfl, rfl, rfl, trivial⟩, rfl, (by rw [a0h]; exact mN), (by omega), (by exact zset mR (by omega))⟩))
  omega
 have lz := jb
 try simp only [BS] at lz
 refine wT 2 [] 38 38 [5] [(5, (.func (.func 50) #[] #[(.pointer (some ⟨N, 0, none⟩))]))] rfl fun _ => ?_
 have nr := rw_zero (c := c) mN (by omega) mR
 refine aa (wUo 1 0 [(0, .o ll)] 39 39 [] [(39, ll)] (qn 24 0 3 (HS.hc e9 (i := 0) rfl) rfl rfl rfl rfl) rfl fun _ => aA (aq rfl rfl rfl) rfl rfl (na.points_c ex c (HS.call e9) (by omega) (by omega) dk hT (by omega) (by omega)) ?_)
 rintro _ pD ⟨fi, f0, A, g4, nT, hg, h6, rfl, b3, pZ⟩
 replace h6 : HS _ _ _ [_, a0, ds, [(N, .cells [(.slice T rh.length U)] none false)], g4] _ := HS.back e9 rfl h6
 replace b5 := b5.mono hg
 replace em := SF.mono hg em
 refine wa (.slice fi A.length f0) rfl rfl rfl (ae 3 rfl ?_)
 have ps := (by assumption : PsF c _)
 have hpsl := ps.len
 refine wU 2 [(1, .o (.slice ci c.blocks.length co))] 41 44 [] [(42, (.slice ci c.blocks.length co)), (43, (iI (c.blocks.length : Int))), (44, (iI 0))] (ql 22 2 (HS.hc h6 (i := 0) rfl) rfl rfl) rfl fun _ => aj (fun (mm : Nat) f H' => ∃ (c4 : List Hd) (iv : List (List U64)) (k : Nat) (a1 : Fp) (av : Option Addr) (aw : Nat) (c3 : Fp) (F' : Fz), Fz.le nT F' ∧ HS (Base.of H []) F' H' [g6, a1, c3, [(N, .cells [(.slice av c4.length aw)] none false)], g4] R ∧ OS F' (.slice av c4.length aw) c4 a1 ∧ SF F' c4 iv c3 ∧ aD f [(1, (.pointer (some ⟨b1, 0, none⟩))), (3, (.pointer (some ⟨N, 0, none⟩))), (5, (.func (.func 50) #[] #[(.pointer (some ⟨N, 0, none⟩))])), (6, (.slice fi A.length f0)), (42, (.slice ci c.blocks.length co)), (43, (iI (c.blocks.length : Int))), (44, (iI (k : Int)))] ∧ mm = c.blocks.length - k ∧ (RwF c iv (E0 c k)) ∧ (k ≤ c.blocks.length)) _ ⟨rh, rl, 0, a0, T, U, ds, _, fR, h6, b5, em, ⟨rfl, rfl, rfl, rfl, rfl, rfl, rfl, trivial⟩, rfl, (by exact nr), (by omega)⟩ ?_
 rintro pk pR pE ⟨c4, iv, k, a1, av, aw, c3, lq, hl, hw, go, hz, lP, rfl, mu, hk⟩ nE
 refine ap _ lP (fun _ => ?_)
 clear lP
 replace hT := (hT.mono hg).mono hl
 replace dk := (dk.mono hg).mono hl
 replace b3 := b3.mono hl
 have nN := FAM.len hz
 have pb := mu.len
 refine ah 1 rfl (wT 2 [] 45 45 [] [(45, (.bool (decide ((k : Int) < (c.blocks.length : Int)))))] rfl fun _ => am 4 5 (v := (decide ((k : Int) < (c.blocks.length : Int)))) rfl rfl rfl rfl (fun jc => ?_) (fun jc => ?_))
 ·
  have lA := jc
  try simp only [BS] at lA
  have hbn : k < c.blocks.length := by omega
  have hbl := hins k
  have px : PtX c k (A.getD k default) := ps.at_ k hbn
  have hpxl : (A.getD k default).length = (c.blocks.getD k default).ins.length + 2 := px.len
  have oy : (A.getD k []).length = (c.blocks.getD k default).ins.length + 2 := px.len
  refine aa ?_
  obtain ⟨a4, l3⟩ := Sv.view (SR.sv dk hw)
  obtain ⟨od, oe, og, oi, hb⟩ := BlkT.fx (l3 k)
  let mX : Value := (.agg ⟨[(.slice (cA (a4 k) 0) (c.blocks.getD k default).ins.length (cK (a4 k) 0)), (iI (c.blocks.getD k default).fin), (iI (c.blocks.getD k default).reg), (iI (c.blocks.getD k default).tgt), (iI (c.blocks.getD k default).els)]⟩)
  refine wRo 3 0 [(2, .o mX)] 46 48 [] [(46, (iI (k : Int))), (48, mX)] (vA (Sv.ix (j := (k : Int)) (SR.sv dk hw) (by omega) (by omega)) (vA (qn 48 0 5 (BlkT.vw (l3 k) (by omega)) rfl rfl rfl rfl) trivial)) rfl fun _ => aG (bp hw rfl) rfl rfl ?_
  rintro _ pF _ ⟨lw, rfl, (nw : HS _ _ _ [_, a1, c3, [(N, .cells [(.slice av c4.length aw)] none false)], _, [(lw, .cells [(.slice none 0 0), (iI 0), (iI 0), (iI 0), (iI 0)] none false)]] _), _⟩
  refine wa (iI (k : Int)) rfl rfl rfl (aN (aI (q := 5) nw rfl rfl rfl rfl rfl rfl rfl rfl rfl) rfl ?_)
  rintro _ pG _ ⟨(l2 : HS _ _ _ [_, _, _, _, _, [(lw, .cells [(.slice (cA (a4 k) 0) (c.blocks.getD k default).ins.length (cK (a4 k) 0)), (iI (c.blocks.getD k default).fin), (iI (c.blocks.getD k default).reg), (iI (c.blocks.getD k default).tgt), (iI (c.blocks.getD k default).els)] none false)]] _), _⟩
  let lm : Fp := [(lw, .cells [(.slice (cA (a4 k) 0) (c.blocks.getD k default).ins.length (cK (a4 k) 0)), (iI (c.blocks.getD k default).fin), (iI (c.blocks.getD k default).reg), (iI (c.blocks.getD k default).tgt), (iI (c.blocks.getD k default).els)] none false)]
  refine ae 2 rfl (wU 2 [(1, .o (.slice (cA (a4 k) 0) (c.blocks.getD k default).ins.length (cK (a4 k) 0)))] 49 52 [] [(50, (.slice (cA (a4 k) 0) (c.blocks.getD k default).ins.length (cK (a4 k) 0))), (51, (iI ((c.blocks.getD k default).ins.length : Int))), (52, (iI 0))] (ql 46 0 (HS.hc l2 (i := 5) rfl) rfl rfl) rfl fun _ => aj (fun (mm : Nat) f H' => ∃ (g5 : List Hd) (iz : List (List U64)) (n : Nat) (bb : Fp) (a7 : Option Addr) (a8 : Nat) (dt : Fp) (F' : Fz), Fz.le lq F' ∧ HS (Base.of H []) F' H' [g6, bb, dt, [(N, .cells [(.slice a7 g5.length a8)] none false)], g4, lm] R ∧ OS F' (.slice a7 g5.length a8) g5 bb ∧ SF F' g5 iz dt ∧ aD f [(1, (.pointer (some ⟨b1, 0, none⟩))), (3, (.pointer (some ⟨N, 0, none⟩))), (5, (.func (.func 50) #[] #[(.pointer (some ⟨N, 0, none⟩))])), (6, (.slice fi A.length f0)), (7, (iI (k : Int))), (42, (.slice ci c.blocks.length co)), (43, (iI (c.blocks.length : Int))), (44, (iI (k : Int))), (50, (.slice (cA (a4 k) 0) (c.blocks.getD k default).ins.length (cK (a4 k) 0))), (51, (iI ((c.blocks.getD k default).ins.length : Int))), (52, (iI (n : Int)))] ∧ mm = (c.blocks.getD k default).ins.length - n ∧ (RwF c iz (E1 c k n)) ∧ (n ≤ (c.blocks.getD k default).ins.length)) _ ⟨c4, iv, 0, a1, av, aw, c3, _, fR, l2, go, hz, ⟨rfl, rfl, rfl, rfl, rfl, rfl, rfl, rfl, rfl, rfl, rfl, trivial⟩, rfl, (by exact rw_e1 mu), (by omega)⟩ ?_)
  rintro pm pS pH ⟨g5, iz, n, bb, a7, a8, dt, pw, ht, h7, c8, es, lQ, rfl, mT, hn⟩ nF
  refine ap _ lQ (fun _ => ?_)
  clear lQ
  replace hT := hT.mono ht
  replace b3 := b3.mono ht
  replace hb := hb.mono ht
  have nO := FAM.len es
  refine ah 1 rfl (wT 2 [] 53 53 [] [(53, (.bool (decide ((n : Int) < ((c.blocks.getD k default).ins.length : Int)))))] rfl fun _ => am 4 5 (v := (decide ((n : Int) < ((c.blocks.getD k default).ins.length : Int)))) rfl rfl rfl rfl (fun jq => ?_) (fun jq => ?_))
  ·
   have lB := jq
   try simp only [BS] at lB
   have hin : n < (c.blocks.getD k default).ins.length := by omega
   have hvl : (∀ x ∈ az ((c.blocks.getD k default).ins.getD n default), 0 ≤ x ∧ x < c.regs) ∧ (∀ x ∈ ab ((c.blocks.getD k default).ins.getD n default), 0 ≤ x ∧ x < c.regs) ∧ ((c.blocks.getD k default).ins.getD n default).args.length ≤ 6 := bV (vF.ins k hbn n hin)
   have pe := hvl.2.2
   have pl : Lst ((A.getD k default).getD (n + 1) default) (ptS c k (n + 1)) := px.pt (n + 1) hin
   have hpl := Lst.len pl hrg.1 (fun r h => gX vF hbn h)
   have hpv : ((A.getD k default).getD (n + 1) []).length = ((A.getD k default).getD (n + 1) default).length := rfl
   have o7 : ((A.getD k []).getD (n + 1) []).length = ((A.getD k default).getD (n + 1) default).length := rfl
   have hwl := dR (v := ((c.blocks.getD k default).ins.getD n default))
   refine aa ?_
   obtain ⟨f3, l4⟩ := Sv.view (SR.sv hb h7)
   obtain ⟨oj, om, oo, oq, ot, mM⟩ := VInT.fx (l4 n)
   let ln : Value := (.agg ⟨[(iI ((c.blocks.getD k default).ins.getD n default).i.op), (iI ((c.blocks.getD k default).ins.getD n default).i.a), (iI ((c.blocks.getD k default).ins.getD n default).i.b), (iI ((c.blocks.getD k default).ins.getD n default).i.c), (iI ((c.blocks.getD k default).ins.getD n default).i.n), (.slice (cA (f3 n) 5) ((c.blocks.getD k default).ins.getD n default).args.length (cK (f3 n) 5))]⟩)
   refine wRo 3 0 [(2, .o ln)] 54 56 [] [(54, (iI (n : Int))), (56, ln)] (vA (Sv.ix (j := (n : Int)) (SR.sv hb h7) (by omega) (by omega)) (vA (qn 52 0 6 (VInT.vw (l4 n) (by omega)) rfl rfl rfl rfl) trivial)) rfl fun _ => aG (bp h7 rfl) rfl rfl ?_
   rintro _ pI _ ⟨ib, rfl, (nx : HS _ _ _ [_, bb, dt, [(N, .cells [(.slice a7 g5.length a8)] none false)], _, _, [(ib, .cells [(iI 0), (iI 0), (iI 0), (iI 0), (iI 0), (.slice none 0 0)] none false)]] _), _⟩
   refine wa (iI (n : Int)) rfl rfl rfl (aN (aI (q := 6) nx rfl rfl rfl rfl rfl rfl rfl rfl rfl) rfl ?_)
   rintro _ pJ _ ⟨(ko : HS _ _ _ [_, _, _, _, _, _, [(ib, .cells [(iI ((c.blocks.getD k default).ins.getD n default).i.op), (iI ((c.blocks.getD k default).ins.getD n default).i.a), (iI ((c.blocks.getD k default).ins.getD n default).i.b), (iI ((c.blocks.getD k default).ins.getD n default).i.c), (iI ((c.blocks.getD k default).ins.getD n default).i.n), (.slice (cA (f3 n) 5) ((c.blocks.getD k default).ins.getD n default).args.length (cK (f3 n) 5))] none false)]] _), _⟩
   refine ae 2 rfl (aa (wUo 1 0 [(0, .o ln)] 57 57 [] [(57, ln)] (qn 52 0 6 (HS.hc ko (i := 6) rfl) rfl rfl rfl rfl) rfl fun _ => aA (aq rfl rfl rfl) rfl rfl (ma.fM ex ((c.blocks.getD k default).ins.getD n default) (HS.call ko) (by omega) (by omega) (by omega) (by omega) (by omega) mM hT) ?_))
   rintro _ pK ⟨lv, mp, p2, lf, nU, hR, kr, rfl, g9, rfl⟩
   replace kr : HS _ _ _ [_, _, _, _, _, _, _, lf] _ := HS.back ko rfl kr
   replace c8 := c8.mono hR
   replace es := SF.mono hR es
   let mw : Fp := [(ib, .cells [(iI ((c.blocks.getD k default).ins.getD n default).i.op), (iI ((c.blocks.getD k default).ins.getD n default).i.a), (iI ((c.blocks.getD k default).ins.getD n default).i.b), (iI ((c.blocks.getD k default).ins.getD n default).i.c), (iI ((c.blocks.getD k default).ins.getD n default).i.n), (.slice (cA (f3 n) 5) ((c.blocks.getD k default).ins.getD n default).args.length (cK (f3 n) 5))] none false)]
   refine wTo 2 2 [] 59 60 [] [(59, (iI ((ab ((c.blocks.getD k default).ins.getD n default)).length : Int))), (60, (iI 0))] rfl fun _ => ae 2 rfl (aj (fun (mm : Nat) f H' => ∃ (hB : List Hd) (i1 : List (List U64)) (q : Nat) (b7 : Fp) (b4 : Option Addr) (b6 : Nat) (et : Fp) (F' : Fz), Fz.le nU F' ∧ HS (Base.of H []) F' H' [g6, b7, et, [(N, .cells [(.slice b4 hB.length b6)] none false)], g4, lm, mw, lf] R ∧ OS F' (.slice b4 hB.length b6) hB b7 ∧ SF F' hB i1 et ∧ aD f [(1, (.pointer (some ⟨b1, 0, none⟩))), (3, (.pointer (some ⟨N, 0, none⟩))), (5, (.func (.func 50) #[] #[(.pointer (some ⟨N, 0, none⟩))])), (6, (.slice fi A.length f0)), (7, (iI (k : Int))), (9, (iI (n : Int))), (10, (.pointer (some ⟨ib, 0, none⟩))), (42, (.slice ci c.blocks.length co)), (43, (iI (c.blocks.length : Int))), (44, (iI (k : Int))), (50, (.slice (cA (a4 k) 0) (c.blocks.getD k default).ins.length (cK (a4 k) 0))), (51, (iI ((c.blocks.getD k default).ins.length : Int))), (52, (iI (n : Int))), (58, (.slice lv (ab ((c.blocks.getD k default).ins.getD n default)).length mp)), (59, (iI ((ab ((c.blocks.getD k default).ins.getD n default)).length : Int))), (60, (iI (q : Int)))] ∧ mm = (ab ((c.blocks.getD k default).ins.getD n default)).length - q ∧ (RwF c i1 (E2 c k n q)) ∧ (q ≤ (ab ((c.blocks.getD k default).ins.getD n default)).length)) _ ⟨g5, iz, 0, bb, a7, a8, dt, _, fR, kr, c8, es, ⟨rfl, rfl, rfl, rfl, rfl, rfl, rfl, rfl, rfl, rfl, rfl, rfl, rfl, rfl, rfl, rfl, trivial⟩, rfl, (by exact rw_e2 mT), (by omega)⟩ ?_)
   rintro pn pT pL ⟨hB, i1, q, b7, b4, b6, et, nV, hS, ea, g3, hA, lR, rfl, mU, hq⟩ nG
   refine ap _ lR (fun _ => ?_)
   clear lR
   replace b3 := (b3.mono hR).mono hS
   replace g9 := g9.mono hS
   have nP := FAM.len hA
   refine ah 1 rfl (wT 2 [] 61 61 [] [(61, (.bool (decide ((q : Int) < ((ab ((c.blocks.getD k default).ins.getD n default)).length : Int)))))] rfl fun _ => am 4 5 (v := (decide ((q : Int) < ((ab ((c.blocks.getD k default).ins.getD n default)).length : Int)))) rfl rfl rfl rfl (fun jw => ?_) (fun jw => ?_))
   ·
    have lC := jw
    try simp only [BS] at lC
    have hwq := d3 hvl.2.1 (k := q) (by omega)
    obtain ⟨oP, l5⟩ := Sv.view (OS.sv g9 ea (i := 7) rfl)
    have pV := fI (l5 q)
    refine wR 2 [(1, .o (iI ((ab ((c.blocks.getD k default).ins.getD n default)).getD q 0)))] 62 63 [12] [(12, (iI ((ab ((c.blocks.getD k default).ins.getD n default)).getD q 0)))] (vA (Sv.ix (j := (q : Int)) (OS.sv g9 ea (i := 7) rfl) (by omega) (by omega)) (vA (ql 3 0 (vI (l5 q) (by omega)) rfl rfl) trivial)) rfl fun _ => ?_
    obtain ⟨lG, l6⟩ := Sv.view (OS.sv b3 ea (i := 4) rfl)
    have mW := fL (l6 k)
    obtain ⟨f4, l7⟩ := Sv.view (SR.sv mW ea)
    have lj := fL (l7 (n + 1))
    refine wR 2 [(3, .o (.slice (cA (lG k) 0) (A.getD k default).length (cK (lG k) 0))), (7, .o (.slice (cA (f4 (n + 1)) 0) ((A.getD k default).getD (n + 1) default).length (cK (f4 (n + 1)) 0)))] 64 73 [] [(71, (.slice (cA (f4 (n + 1)) 0) ((A.getD k default).getD (n + 1) default).length (cK (f4 (n + 1)) 0))), (72, (iI (((A.getD k default).getD (n + 1) default).length : Int))), (73, (iI 0))] (vA (Sv.ix (j := (k : Int)) (OS.sv b3 ea (i := 4) rfl) (by omega) (by omega)) (vA (ql 32 0 (vL (l6 k) (by omega)) rfl rfl) (vA (vi (n := (n : Int) + 1) (by omega)) (vA (Sv.ix (j := (n : Int) + 1) (SR.sv mW ea) (by omega) (by omega)) (vA (ql 25 0 (vL (l7 (n + 1)) (by omega)) rfl rfl) trivial))))) rfl fun _ => aj (fun (mm : Nat) f H' => ∃ (J : List Hd) (E : List (List U64)) (p : Nat) (a2 : Fp) (al : Option Addr) (ar : Nat) (ez : Fp) (F' : Fz), Fz.le nV F' ∧ HS (Base.of H []) F' H' [g6, a2, ez, [(N, .cells [(.slice al J.length ar)] none false)], g4, lm, mw, lf] R ∧ OS F' (.slice al J.length ar) J a2 ∧ SF F' J E ez ∧ aD f [(1, (.pointer (some ⟨b1, 0, none⟩))), (3, (.pointer (some ⟨N, 0, none⟩))), (5, (.func (.func 50) #[] #[(.pointer (some ⟨N, 0, none⟩))])), (6, (.slice fi A.length f0)), (7, (iI (k : Int))), (9, (iI (n : Int))), (10, (.pointer (some ⟨ib, 0, none⟩))), (12, (iI ((ab ((c.blocks.getD k default).ins.getD n default)).getD q 0))), (42, (.slice ci c.blocks.length co)), (43, (iI (c.blocks.length : Int))), (44, (iI (k : Int))), (50, (.slice (cA (a4 k) 0) (c.blocks.getD k default).ins.length (cK (a4 k) 0))), (51, (iI ((c.blocks.getD k default).ins.length : Int))), (52, (iI (n : Int))), (58, (.slice lv (ab ((c.blocks.getD k default).ins.getD n default)).length mp)), (59, (iI ((ab ((c.blocks.getD k default).ins.getD n default)).length : Int))), (60, (iI (q : Int))), (71, (.slice (cA (f4 (n + 1)) 0) ((A.getD k default).getD (n + 1) default).length (cK (f4 (n + 1)) 0))), (72, (iI (((A.getD k default).getD (n + 1) default).length : Int))), (73, (iI (p : Int)))] ∧ mm = (((A.getD k default).getD (n + 1) default)).length - p ∧ (RwF c E (E3 c k n q ((A.getD k default).getD (n + 1) default) p)) ∧ (p ≤ (((A.getD k default).getD (n + 1) default)).length)) _ ⟨hB, i1, 0, b7, b4, b6, et, _, fR, ea, g3, hA, ⟨rfl, rfl, rfl, rfl, rfl, rfl, rfl, rfl, rfl, rfl, rfl, rfl, rfl, rfl, rfl, rfl, rfl, rfl, rfl, rfl, trivial⟩, rfl, (by exact rw_e3 mU), (by omega)⟩ ?_
    rintro po pU pM ⟨J, E, p, a2, al, ar, ez, lr, hV, dl, ay, f1, lS, rfl, hE, hp⟩ mk
    refine ap _ lS (fun _ => ?_)
    clear lS
    replace lj := lj.mono hV
    have nQ := FAM.len f1
    refine ah 1 rfl (wT 2 [] 74 74 [] [(74, (.bool (decide ((p : Int) < (((A.getD k default).getD (n + 1) default).length : Int)))))] rfl fun _ => am 4 5 (v := (decide ((p : Int) < (((A.getD k default).getD (n + 1) default).length : Int)))) rfl rfl rfl rfl (fun kc => ?_) (fun kc => ?_))
    ·
     have lE := kc
     try simp only [BS] at lE
     have hxp : 0 ≤ (((A.getD k default).getD (n + 1) default)).getD p 0 ∧ (((A.getD k default).getD (n + 1) default)).getD p 0 < c.regs := by (have hm := (pl.mem _).1 (iS (l := ((A.getD k default).getD (n + 1) default)) (q := p) (by omega)); have hh := gX vF hbn hm.2; omega)
     obtain ⟨oQ, l8⟩ := Sv.view (SR.sv lj dl)
     have pW := fI (l8 p)
     refine wR 2 [(1, .o (iI (((A.getD k default).getD (n + 1) default).getD p 0)))] 75 76 [14] [(14, (iI (((A.getD k default).getD (n + 1) default).getD p 0)))] (vA (Sv.ix (j := (p : Int)) (SR.sv lj dl) (by omega) (by omega)) (vA (ql 3 0 (vI (l8 p) (by omega)) rfl rfl) trivial)) rfl fun _ => wR 1 [(6, .o (iI ((c.blocks.getD k default).ins.getD n default).i.op)), (12, .o (iI ((c.blocks.getD k default).ins.getD n default).i.b))] 77 93 [] [(93, (.bool (((((A.getD k default).getD (n + 1) default).getD p 0) != ((ab ((c.blocks.getD k default).ins.getD n default)).getD q 0)) && (!((((c.blocks.getD k default).ins.getD n default).i.op == 10) && ((((A.getD k default).getD (n + 1) default).getD p 0) == ((c.blocks.getD k default).ins.getD n default).i.b))))))] (vA (fun (g1 : ((((A.getD k default).getD (n + 1) default).getD p 0) != ((ab ((c.blocks.getD k default).ins.getD n default)).getD q 0)) = true) => (ql 3 0 (HS.hc dl (i := 6) rfl) rfl rfl)) (vA (fun (g1 : (((c.blocks.getD k default).ins.getD n default).i.op == 10) = true) (g2 : ((((A.getD k default).getD (n + 1) default).getD p 0) != ((ab ((c.blocks.getD k default).ins.getD n default)).getD q 0)) = true) => (ql 3 2 (HS.hc dl (i := 6) rfl) rfl rfl)) trivial)) rfl fun _ => am 0 2 (v := (((((A.getD k default).getD (n + 1) default).getD p 0) != ((ab ((c.blocks.getD k default).ins.getD n default)).getD q 0)) && (!((((c.blocks.getD k default).ins.getD n default).i.op == 10) && ((((A.getD k default).getD (n + 1) default).getD p 0) == ((c.blocks.getD k default).ins.getD n default).i.b))))) rfl rfl rfl rfl (fun kd => ?_) (fun kd => ?_)
     ·
      have ih := kd
      try simp only [BS] at ih
      have hu := ih
      have hne : eok c k n ((ab ((c.blocks.getD k default).ins.getD n default)).getD q 0) ((((A.getD k default).getD (n + 1) default)).getD p 0) := ⟨hu.1, fun h => by have h2 := hu.2; simp_all⟩
      have pc := hE.len
      have hra := hE.row ((ab ((c.blocks.getD k default).ins.getD n default)).getD q 0).toNat (by omega)
      have hrx := hE.row ((((A.getD k default).getD (n + 1) default)).getD p 0).toNat (by omega)
      have hnx := n64 (s := E.getD ((ab ((c.blocks.getD k default).ins.getD n default)).getD q 0).toNat default) (n := (((A.getD k default).getD (n + 1) default)).getD p 0) (by omega)
      have hna := n64 (s := E.getD ((((A.getD k default).getD (n + 1) default)).getD p 0).toNat default) (n := (ab ((c.blocks.getD k default).ins.getD n default)).getD q 0) (by omega)
      have hax : ((ab ((c.blocks.getD k default).ins.getD n default)).getD q 0).toNat ≠ ((((A.getD k default).getD (n + 1) default)).getD p 0).toNat := by have := hu.1; omega
      refine aa (wm (.func (.func 50) #[] #[(.pointer (some ⟨N, 0, none⟩))]) rfl rfl rfl (wm (iI ((ab ((c.blocks.getD k default).ins.getD n default)).getD q 0)) rfl rfl rfl (wm (iI (((A.getD k default).getD (n + 1) default).getD p 0)) rfl rfl rfl (aA (R := fun v H' => ∃ (rhc : List Hd) (rlc : List (List U64)) (dd : Fp) (c7 : Option Addr) (c9 : Nat) (f2 : Fp) (F' : Fz), Fz.le lr F' ∧ HS (Base.of H []) F' H' [g6, dd, f2, [(N, .cells [(.slice c7 rhc.length c9)] none false)], g4, lm, mw, lf] R ∧ OS F' (.slice c7 rhc.length c9) rhc dd ∧ SF F' rhc rlc f2 ∧ v = .tuple #[] ∧ (Con E rlc ((ab ((c.blocks.getD k default).ins.getD n default)).getD q 0) (((A.getD k default).getD (n + 1) default).getD p 0))) (ap_callc rfl rfl rfl rfl) rfl rfl ?_ ?_))))
      ·
       refine aH Tryd.func50 rfl rfl (ah 1 rfl (aa ?_))
       obtain ⟨oR, nB⟩ := Sv.view (OS.sv ay dl (i := 1) rfl)
       obtain ⟨ni, lI, f6, e5, nm⟩ := SF.open f1 dl (q := 2) (i := ((ab ((c.blocks.getD k default).ins.getD n default)).getD q 0).toNat) rfl (by omega)
       have f6 : HS _ _ _ [_, a2, ni, [(N, .cells [(.slice al J.length ar)] none false)], _, _, _, _, lI] _ := f6
       have e5 : OS lr (.slice (J.getD (((ab ((c.blocks.getD k default).ins.getD n default)).getD q 0).toNat) default).a (J.getD (((ab ((c.blocks.getD k default).ins.getD n default)).getD q 0).toNat) default).n (J.getD (((ab ((c.blocks.getD k default).ins.getD n default)).getD q 0).toNat) default).k) (E.getD (((ab ((c.blocks.getD k default).ins.getD n default)).getD q 0).toNat) default) lI := e5
       have ph := OS.nlen e5
       have pr : in64 (((A.getD k default).getD (n + 1) default).getD p 0) → in64 (Int.tdiv (((A.getD k default).getD (n + 1) default).getD p 0) 64) := fun h => vq h (by decide)
       obtain ⟨oT, l9⟩ := Sv.view (OS.sv e5 f6 (i := 8) rfl)
       have pX := fU (l9 ((Int.tdiv (((A.getD k default).getD (n + 1) default).getD p 0) 64).toNat))
       refine wRo 14 0 [(0, .o (.slice al J.length ar)), (3, .o (.slice (J.getD (((ab ((c.blocks.getD k default).ins.getD n default)).getD q 0).toNat) default).a (J.getD (((ab ((c.blocks.getD k default).ins.getD n default)).getD q 0).toNat) default).n (J.getD (((ab ((c.blocks.getD k default).ins.getD n default)).getD q 0).toNat) default).k)), (7, .o (.int .u64 (((E.getD (((ab ((c.blocks.getD k default).ins.getD n default)).getD q 0).toNat) default).getD ((Int.tdiv (((A.getD k default).getD (n + 1) default).getD p 0) 64).toNat) default).n)))] 5 18 [] [(17, (.int .u64 (aQ .or .u64 (((E.getD (((ab ((c.blocks.getD k default).ins.getD n default)).getD q 0).toNat) default).getD ((Int.tdiv (((A.getD k default).getD (n + 1) default).getD p 0) 64).toNat) default).n) (IntKind.u64.wrap (1 * 2 ^ (Nat.min ((Int.tmod (((A.getD k default).getD (n + 1) default).getD p 0) 64).toNat) 64)))))), (18, (.pointer (some ⟨sB (.slice (J.getD (((ab ((c.blocks.getD k default).ins.getD n default)).getD q 0).toNat) default).a (J.getD (((ab ((c.blocks.getD k default).ins.getD n default)).getD q 0).toNat) default).n (J.getD (((ab ((c.blocks.getD k default).ins.getD n default)).getD q 0).toNat) default).k), sO (.slice (J.getD (((ab ((c.blocks.getD k default).ins.getD n default)).getD q 0).toNat) default).a (J.getD (((ab ((c.blocks.getD k default).ins.getD n default)).getD q 0).toNat) default).n (J.getD (((ab ((c.blocks.getD k default).ins.getD n default)).getD q 0).toNat) default).k) + ((Int.tdiv (((A.getD k default).getD (n + 1) default).getD p 0) 64).toNat) * Rp.sz U64, none⟩)))] (vA (ql 85 0 (HS.hc dl (i := 3) rfl) rfl rfl) (vA (Sv.ix (j := ((ab ((c.blocks.getD k default).ins.getD n default)).getD q 0)) (OS.sv ay dl (i := 1) rfl) (by omega) (by omega)) (vA (ql 86 0 (vH (nB (((ab ((c.blocks.getD k default).ins.getD n default)).getD q 0).toNat)) (by omega)) rfl rfl) (vA (vA (show (64 : Int) ≠ 0 from by decide) (vq (a := (((A.getD k default).getD (n + 1) default).getD p 0)) (b := 64) (by omega) (by decide))) (vA (Sv.ix (j := Int.tdiv (((A.getD k default).getD (n + 1) default).getD p 0) 64) (OS.sv e5 f6 (i := 8) rfl) (by omega) (by omega)) (vA (ql 87 0 (vU (l9 ((Int.tdiv (((A.getD k default).getD (n + 1) default).getD p 0) 64).toNat)) (by omega)) rfl rfl) (vA (show (64 : Int) ≠ 0 from by decide) (vA (vu (n := Int.tmod (((A.getD k default).getD (n + 1) default).getD p 0) 64) (by omega)) (vA (show (0 : Int) ≤ Int.tmod (((A.getD k default).getD (n + 1) default).getD p 0) 64 from by omega) (vA (Sv.ix (j := Int.tdiv (((A.getD k default).getD (n + 1) default).getD p 0) 64) (OS.sv e5 f6 (i := 8) rfl) (by omega) (by omega)) trivial)))))))))) rfl fun _ => aN (db (α := U64) (j := (Int.tdiv (((A.getD k default).getD (n + 1) default).getD p 0) 64).toNat) (off := 0) (q := 8) ⟨aQ .or .u64 (((E.getD (((ab ((c.blocks.getD k default).ins.getD n default)).getD q 0).toNat) default).getD ((Int.tdiv (((A.getD k default).getD (n + 1) default).getD p 0) 64).toNat) default).n) (IntKind.u64.wrap (1 * 2 ^ (Nat.min ((Int.tmod (((A.getD k default).getD (n + 1) default).getD p 0) 64).toNat) 64)))⟩ e5 f6 rfl rfl rfl rfl rfl rfl rfl rfl (aM (x := default) (by omega)) rfl (by rintro cs ⟨rfl, _⟩; exact ⟨a07 rfl, rfl, by (dsimp only; exact eG _ _ _)⟩)) rfl ?_
       rintro _ pO n3 ⟨lW, (nz : HS _ _ _ [_, _, _, _, _, _, _, _, n3] _), _⟩
       have ov := OS.len' lW
       refine ae 1 rfl ?_
       obtain ⟨nk, f7, lT⟩ := SF.shut nm fR nz (q := 2) (m := 8) (by decide) rfl rfl lW
       have f7 : HS _ _ _ [_, _, nk, _, _, _, _, _, []] _ := f7
       have o0 := FAM.len lT
       have p1 : ((E.set (((ab ((c.blocks.getD k default).ins.getD n default)).getD q 0).toNat) ((E.getD (((ab ((c.blocks.getD k default).ins.getD n default)).getD q 0).toNat) default).set ((Int.tdiv (((A.getD k default).getD (n + 1) default).getD p 0) 64).toNat) ⟨aQ .or .u64 (((E.getD (((ab ((c.blocks.getD k default).ins.getD n default)).getD q 0).toNat) default).getD ((Int.tdiv (((A.getD k default).getD (n + 1) default).getD p 0) 64).toNat) default).n) (IntKind.u64.wrap (1 * 2 ^ (Nat.min ((Int.tmod (((A.getD k default).getD (n + 1) default).getD p 0) 64).toNat) 64)))⟩)).getD (((A.getD k default).getD (n + 1) default).getD p 0).toNat default).length = (E.getD (((A.getD k default).getD (n + 1) default).getD p 0).toNat default).length := by rw [df, if_neg (fun e => hax e.1)]
       refine aa ?_
       obtain ⟨oU, nC⟩ := Sv.view (OS.sv ay f7 (i := 1) rfl)
       obtain ⟨nj, lJ, f8, e6, nn⟩ := SF.open lT f7 (q := 2) (i := (((A.getD k default).getD (n + 1) default).getD p 0).toNat) rfl (by omega)
       have f8 : HS _ _ _ [_, _, nj, _, _, _, _, _, _, lJ] _ := f8
       have e6 : OS lr (.slice (J.getD (((A.getD k default).getD (n + 1) default).getD p 0).toNat default).a (J.getD (((A.getD k default).getD (n + 1) default).getD p 0).toNat default).n (J.getD (((A.getD k default).getD (n + 1) default).getD p 0).toNat default).k) ((E.set (((ab ((c.blocks.getD k default).ins.getD n default)).getD q 0).toNat) ((E.getD (((ab ((c.blocks.getD k default).ins.getD n default)).getD q 0).toNat) default).set ((Int.tdiv (((A.getD k default).getD (n + 1) default).getD p 0) 64).toNat) ⟨aQ .or .u64 (((E.getD (((ab ((c.blocks.getD k default).ins.getD n default)).getD q 0).toNat) default).getD ((Int.tdiv (((A.getD k default).getD (n + 1) default).getD p 0) 64).toNat) default).n) (IntKind.u64.wrap (1 * 2 ^ (Nat.min ((Int.tmod (((A.getD k default).getD (n + 1) default).getD p 0) 64).toNat) 64)))⟩)).getD (((A.getD k default).getD (n + 1) default).getD p 0).toNat default) lJ := e6
       have pi := OS.nlen e6
       have pu : in64 ((ab ((c.blocks.getD k default).ins.getD n default)).getD q 0) → in64 (Int.tdiv ((ab ((c.blocks.getD k default).ins.getD n default)).getD q 0) 64) := fun h => vq h (by decide)
       obtain ⟨oV, me⟩ := Sv.view (OS.sv e6 f8 (i := 9) rfl)
       have pY := fU (me ((Int.tdiv ((ab ((c.blocks.getD k default).ins.getD n default)).getD q 0) 64).toNat))
       refine wRo 14 0 [(0, .o (.slice al J.length ar)), (3, .o (.slice (J.getD (((A.getD k default).getD (n + 1) default).getD p 0).toNat default).a (J.getD (((A.getD k default).getD (n + 1) default).getD p 0).toNat default).n (J.getD (((A.getD k default).getD (n + 1) default).getD p 0).toNat default).k)), (7, .o (.int .u64 ((((E.set (((ab ((c.blocks.getD k default).ins.getD n default)).getD q 0).toNat) ((E.getD (((ab ((c.blocks.getD k default).ins.getD n default)).getD q 0).toNat) default).set ((Int.tdiv (((A.getD k default).getD (n + 1) default).getD p 0) 64).toNat) ⟨aQ .or .u64 (((E.getD (((ab ((c.blocks.getD k default).ins.getD n default)).getD q 0).toNat) default).getD ((Int.tdiv (((A.getD k default).getD (n + 1) default).getD p 0) 64).toNat) default).n) (IntKind.u64.wrap (1 * 2 ^ (Nat.min ((Int.tmod (((A.getD k default).getD (n + 1) default).getD p 0) 64).toNat) 64)))⟩)).getD (((A.getD k default).getD (n + 1) default).getD p 0).toNat default).getD ((Int.tdiv ((ab ((c.blocks.getD k default).ins.getD n default)).getD q 0) 64).toNat) default).n)))] 19 32 [] [(31, (.int .u64 (aQ .or .u64 ((((E.set (((ab ((c.blocks.getD k default).ins.getD n default)).getD q 0).toNat) ((E.getD (((ab ((c.blocks.getD k default).ins.getD n default)).getD q 0).toNat) default).set ((Int.tdiv (((A.getD k default).getD (n + 1) default).getD p 0) 64).toNat) ⟨aQ .or .u64 (((E.getD (((ab ((c.blocks.getD k default).ins.getD n default)).getD q 0).toNat) default).getD ((Int.tdiv (((A.getD k default).getD (n + 1) default).getD p 0) 64).toNat) default).n) (IntKind.u64.wrap (1 * 2 ^ (Nat.min ((Int.tmod (((A.getD k default).getD (n + 1) default).getD p 0) 64).toNat) 64)))⟩)).getD (((A.getD k default).getD (n + 1) default).getD p 0).toNat default).getD ((Int.tdiv ((ab ((c.blocks.getD k default).ins.getD n default)).getD q 0) 64).toNat) default).n) (IntKind.u64.wrap (1 * 2 ^ (Nat.min ((Int.tmod ((ab ((c.blocks.getD k default).ins.getD n default)).getD q 0) 64).toNat) 64)))))), (32, (.pointer (some ⟨sB (.slice (J.getD (((A.getD k default).getD (n + 1) default).getD p 0).toNat default).a (J.getD (((A.getD k default).getD (n + 1) default).getD p 0).toNat default).n (J.getD (((A.getD k default).getD (n + 1) default).getD p 0).toNat default).k), sO (.slice (J.getD (((A.getD k default).getD (n + 1) default).getD p 0).toNat default).a (J.getD (((A.getD k default).getD (n + 1) default).getD p 0).toNat default).n (J.getD (((A.getD k default).getD (n + 1) default).getD p 0).toNat default).k) + ((Int.tdiv ((ab ((c.blocks.getD k default).ins.getD n default)).getD q 0) 64).toNat) * Rp.sz U64, none⟩)))] (vA (ql 85 0 (HS.hc f7 (i := 3) rfl) rfl rfl) (vA (Sv.ix (j := (((A.getD k default).getD (n + 1) default).getD p 0)) (OS.sv ay f7 (i := 1) rfl) (by omega) (by omega)) (vA (ql 86 0 (vH (nC (((A.getD k default).getD (n + 1) default).getD p 0).toNat) (by omega)) rfl rfl) (vA (vA (show (64 : Int) ≠ 0 from by decide) (vq (a := ((ab ((c.blocks.getD k default).ins.getD n default)).getD q 0)) (b := 64) (by omega) (by decide))) (vA (Sv.ix (j := Int.tdiv ((ab ((c.blocks.getD k default).ins.getD n default)).getD q 0) 64) (OS.sv e6 f8 (i := 9) rfl) (by omega) (by omega)) (vA (ql 87 0 (vU (me ((Int.tdiv ((ab ((c.blocks.getD k default).ins.getD n default)).getD q 0) 64).toNat)) (by omega)) rfl rfl) (vA (show (64 : Int) ≠ 0 from by decide) (vA (vu (n := Int.tmod ((ab ((c.blocks.getD k default).ins.getD n default)).getD q 0) 64) (by omega)) (vA (show (0 : Int) ≤ Int.tmod ((ab ((c.blocks.getD k default).ins.getD n default)).getD q 0) 64 from by omega) (vA (Sv.ix (j := Int.tdiv ((ab ((c.blocks.getD k default).ins.getD n default)).getD q 0) 64) (OS.sv e6 f8 (i := 9) rfl) (by omega) (by omega)) trivial)))))))))) rfl fun _ => aN (db (α := U64) (j := (Int.tdiv ((ab ((c.blocks.getD k default).ins.getD n default)).getD q 0) 64).toNat) (off := 0) (q := 9) ⟨aQ .or .u64 ((((E.set (((ab ((c.blocks.getD k default).ins.getD n default)).getD q 0).toNat) ((E.getD (((ab ((c.blocks.getD k default).ins.getD n default)).getD q 0).toNat) default).set ((Int.tdiv (((A.getD k default).getD (n + 1) default).getD p 0) 64).toNat) ⟨aQ .or .u64 (((E.getD (((ab ((c.blocks.getD k default).ins.getD n default)).getD q 0).toNat) default).getD ((Int.tdiv (((A.getD k default).getD (n + 1) default).getD p 0) 64).toNat) default).n) (IntKind.u64.wrap (1 * 2 ^ (Nat.min ((Int.tmod (((A.getD k default).getD (n + 1) default).getD p 0) 64).toNat) 64)))⟩)).getD (((A.getD k default).getD (n + 1) default).getD p 0).toNat default).getD ((Int.tdiv ((ab ((c.blocks.getD k default).ins.getD n default)).getD q 0) 64).toNat) default).n) (IntKind.u64.wrap (1 * 2 ^ (Nat.min ((Int.tmod ((ab ((c.blocks.getD k default).ins.getD n default)).getD q 0) 64).toNat) 64)))⟩ e6 f8 rfl rfl rfl rfl rfl rfl rfl rfl (aM (x := default) (by omega)) rfl (by rintro cs ⟨rfl, _⟩; exact ⟨a07 rfl, rfl, by (dsimp only; exact eG _ _ _)⟩)) rfl ?_
       rintro _ pP n5 ⟨lX, (nA : HS _ _ _ [_, _, _, _, _, _, _, _, _, n5] _), _⟩
       have ow := OS.len' lX
       refine ae 0 rfl ?_
       obtain ⟨lL, kx, lU⟩ := SF.shut nn fR nA (q := 2) (m := 9) (by decide) rfl rfl lX
       have kx : HS _ _ _ [_, _, lL, _, _, _, _, _, _, []] _ := kx
       have o1 := FAM.len lU
       refine aT ⟨.inl rfl, _, rfl, J, (E.set (((ab ((c.blocks.getD k default).ins.getD n default)).getD q 0).toNat) ((E.getD (((ab ((c.blocks.getD k default).ins.getD n default)).getD q 0).toNat) default).set ((Int.tdiv (((A.getD k default).getD (n + 1) default).getD p 0) 64).toNat) ⟨aQ .or .u64 (((E.getD (((ab ((c.blocks.getD k default).ins.getD n default)).getD q 0).toNat) default).getD ((Int.tdiv (((A.getD k default).getD (n + 1) default).getD p 0) 64).toNat) default).n) (IntKind.u64.wrap (1 * 2 ^ (Nat.min ((Int.tmod (((A.getD k default).getD (n + 1) default).getD p 0) 64).toNat) 64)))⟩)).set (((A.getD k default).getD (n + 1) default).getD p 0).toNat (((E.set (((ab ((c.blocks.getD k default).ins.getD n default)).getD q 0).toNat) ((E.getD (((ab ((c.blocks.getD k default).ins.getD n default)).getD q 0).toNat) default).set ((Int.tdiv (((A.getD k default).getD (n + 1) default).getD p 0) 64).toNat) ⟨aQ .or .u64 (((E.getD (((ab ((c.blocks.getD k default).ins.getD n default)).getD q 0).toNat) default).getD ((Int.tdiv (((A.getD k default).getD (n + 1) default).getD p 0) 64).toNat) default).n) (IntKind.u64.wrap (1 * 2 ^ (Nat.min ((Int.tmod (((A.getD k default).getD (n + 1) default).getD p 0) 64).toNat) 64)))⟩)).getD (((A.getD k default).getD (n + 1) default).getD p 0).toNat default).set ((Int.tdiv ((ab ((c.blocks.getD k default).ins.getD n default)).getD q 0) 64).toNat) ⟨aQ .or .u64 ((((E.set (((ab ((c.blocks.getD k default).ins.getD n default)).getD q 0).toNat) ((E.getD (((ab ((c.blocks.getD k default).ins.getD n default)).getD q 0).toNat) default).set ((Int.tdiv (((A.getD k default).getD (n + 1) default).getD p 0) 64).toNat) ⟨aQ .or .u64 (((E.getD (((ab ((c.blocks.getD k default).ins.getD n default)).getD q 0).toNat) default).getD ((Int.tdiv (((A.getD k default).getD (n + 1) default).getD p 0) 64).toNat) default).n) (IntKind.u64.wrap (1 * 2 ^ (Nat.min ((Int.tmod (((A.getD k default).getD (n + 1) default).getD p 0) 64).toNat) 64)))⟩)).getD (((A.getD k default).getD (n + 1) default).getD p 0).toNat default).getD ((Int.tdiv ((ab ((c.blocks.getD k default).ins.getD n default)).getD q 0) 64).toNat) default).n) (IntKind.u64.wrap (1 * 2 ^ (Nat.min ((Int.tmod ((ab ((c.blocks.getD k default).ins.getD n default)).getD q 0) 64).toNat) 64)))⟩), a2, al, ar, lL, _, fR, (HS.sub kx (a03 _ _)), ay, lU, rfl, (by exact con_two (by omega) (by omega) hax a0h a0h (fun i => add_ok (by omega) (by assumption) i) (fun i => add_ok (by omega) (by assumption) i))⟩
      rintro _ pN ⟨rhc, rlc, dd, c7, c9, f2, py, np, ny, it, il, rfl, hcon⟩
      have nR := FAM.len il
      refine ee (ah 2 rfl (wU 1 [] 73 73 [98] [(73, (iI ((p : Int) + 1)))] (vi (n := (p : Int) + 1) (by omega)) rfl fun _ => mk _ _ _ ?_ ⟨rhc, rlc, p + 1, dd, c7, c9, f2, _, (fT (hV) np), ny, it, il, ⟨rfl, rfl, rfl, rfl, rfl, rfl, rfl, rfl, rfl, rfl, rfl, rfl, rfl, rfl, rfl, rfl, rfl, rfl, rfl, rfl, trivial⟩, rfl, (by exact rw_yes (by omega) hE hcon hwq.1 hxp.1 hne), (by omega)⟩))
      omega
     have ih := kd
     try simp only [BS] at ih
     have hu := ih
     have hne : ¬ eok c k n ((ab ((c.blocks.getD k default).ins.getD n default)).getD q 0) ((((A.getD k default).getD (n + 1) default)).getD p 0) := fun he => he.2 (hu he.1)
     refine wU 1 [] 73 73 [98] [(73, (iI ((p : Int) + 1)))] (vi (n := (p : Int) + 1) (by omega)) rfl fun _ => mk _ _ _ ?_ ⟨J, E, p + 1, a2, al, ar, ez, _, (hV), dl, ay, f1, ⟨rfl, rfl, rfl, rfl, rfl, rfl, rfl, rfl, rfl, rfl, rfl, rfl, rfl, rfl, rfl, rfl, rfl, rfl, rfl, rfl, trivial⟩, rfl, (by exact rw_no (by omega) hE hne), (by omega)⟩
     omega
    have lE := kc
    try simp only [BS] at lE
    refine wU 1 [] 60 60 [99] [(60, (iI ((q : Int) + 1)))] (vi (n := (q : Int) + 1) (by omega)) rfl fun _ => nG _ _ _ ?_ ⟨J, E, q + 1, a2, al, ar, ez, _, (fT (hS) hV), dl, ay, f1, ⟨rfl, rfl, rfl, rfl, rfl, rfl, rfl, rfl, rfl, rfl, rfl, rfl, rfl, rfl, rfl, rfl, trivial⟩, rfl, (by exact rw_e2s pl hE (show q < (ab ((c.blocks.getD k default).ins.getD n default)).length by omega) (by omega)), (by omega)⟩
    omega
   have lC := jw
   try simp only [BS] at lC
   refine wU 1 [] 52 52 [100] [(52, (iI ((n : Int) + 1)))] (vi (n := (n : Int) + 1) (by omega)) rfl fun _ => nF _ _ _ ?_ ⟨hB, i1, n + 1, b7, b4, b6, et, _, (fT (fT (ht) hR) hS), (HS.sub ea (a03 _ _)), g3, hA, ⟨rfl, rfl, rfl, rfl, rfl, rfl, rfl, rfl, rfl, rfl, rfl, trivial⟩, rfl, (by exact rw_e1s mU (show (ab ((c.blocks.getD k default).ins.getD n default)).length ≤ q by omega)), (by omega)⟩
   omega
  have lB := jq
  try simp only [BS] at lB
  refine wU 1 [] 44 44 [101] [(44, (iI ((k : Int) + 1)))] (vi (n := (k : Int) + 1) (by omega)) rfl fun _ => nE _ _ _ ?_ ⟨g5, iz, k + 1, bb, a7, a8, dt, _, (fT (hl) ht), (HS.sub h7 (a03 _ _)), c8, es, ⟨rfl, rfl, rfl, rfl, rfl, rfl, rfl, trivial⟩, rfl, (by exact rw_e0 mT (show (c.blocks.getD k default).ins.length = n by omega)), (by omega)⟩
  omega
 have lA := jc
 try simp only [BS] at lA
 refine aa (wUo 2 0 [(1, .o (iI c.regs))] 102 103 [] [(103, (iI c.regs))] (ql 3 1 (HS.hc hw (i := 0) rfl) rfl rfl) rfl fun _ => aG (cE (default : Hd) hw rfl rfl rfl rfl rfl rfl rfl rfl rfl rfl (by omega) (by omega)) rfl rfl ?_)
 rintro _ oG mq ⟨lu, mn, rfl, mD, (mH : HS _ _ _ [_, a1, c3, [(N, .cells [(.slice av c4.length aw)] none false)], _, mq] _), _⟩
 have ha := HS.snoc mH
 have ha : HS _ _ _ [_, _, _, _, _, _, []] _ := ha
 have kY : SF lq (List.replicate c.regs.toNat (default : Hd)) (List.replicate c.regs.toNat ([] : List Int)) [] := SF.rep _
 have n9 := FAM.len kY
 refine wa (.slice lu (List.replicate c.regs.toNat (default : Hd)).length mn) rfl rfl rfl (ae 3 rfl (wU 2 [(0, .o (.slice av c4.length aw))] 105 107 [] [(106, (iI (c4.length : Int))), (107, (iI 0))] (ql 85 0 (HS.hc ha (i := 3) rfl) rfl rfl) rfl fun _ => aj (fun (mm : Nat) f H' => ∃ (hC : List Hd) (lh : List (List U64)) (oh : List Hd) (ol : List (List Int)) (k : Nat) (a5 : Option Addr) (a6 : Nat) (c0 : Fp) (bz : Fp) (be : Option Addr) (bl : Nat) (e3 : Fp) (dn : Fp) (F' : Fz), Fz.le lq F' ∧ HS (Base.of H []) F' H' [g6, bz, dn, [(N, .cells [(.slice be hC.length bl)] none false)], g4, c0, e3] R ∧ OS F' (.slice a5 oh.length a6) oh c0 ∧ OS F' (.slice be hC.length bl) hC bz ∧ SF F' oh ol e3 ∧ SF F' hC lh dn ∧ aD f [(1, (.pointer (some ⟨b1, 0, none⟩))), (3, (.pointer (some ⟨N, 0, none⟩))), (15, (.slice a5 oh.length a6)), (106, (iI (c4.length : Int))), (107, (iI (k : Int)))] ∧ mm = c.regs.toNat - k ∧ (RwF c lh (j9 c)) ∧ (ol.length = c.regs.toNat) ∧ (∀ r, r < k → Lst (cN ol r) (Sy (j9 c) r)) ∧ (∀ r, k ≤ r → cN ol r = []) ∧ (k ≤ c.regs.toNat)) _ ⟨c4, iv, List.replicate c.regs.toNat (default : Hd), List.replicate c.regs.toNat ([] : List Int), 0, lu, mn, mq, a1, av, aw, [], c3, _, fR, ha, mD, go, kY, hz, ⟨rfl, rfl, rfl, rfl, rfl, trivial⟩, rfl, (by exact rw_last mu (by omega)), (by simp), (by intro r hr; omega), (by exact fun r _ => row_rep), (by omega)⟩ ?_))
 rintro oC oW oH ⟨hC, lh, oh, ol, k, a5, a6, c0, bz, be, bl, e3, dn, mY, kU, k7, d2, h9, e1, hD, kZ, rfl, mV, nZ, mO, mP, hk⟩ mL
 refine ap _ kZ (fun _ => ?_)
 clear kZ
 have m8 := FAM.len e1
 have m7 := FAM.len hD
 refine ah 1 rfl (wT 2 [] 108 108 [] [(108, (.bool (decide ((k : Int) < (c4.length : Int)))))] rfl fun _ => am 4 5 (v := (decide ((k : Int) < (c4.length : Int)))) rfl rfl rfl rfl (fun hH => ?_) (fun hH => ?_))
 ·
  have i2 := hH
  try simp only [BS] at i2
  have pd := mV.len
  refine wT 2 [] 109 109 [16] [(16, (iI (k : Int)))] rfl fun _ => wT 2 [] 1 0 [17] [(17, (iI 0))] rfl fun _ => aj (fun (mm : Nat) f H' => ∃ (cc : List Hd) (dv : List (List U64)) (a3 : List Hd) (b9 : List (List Int)) (n : Nat) (V : Option Addr) (Z : Nat) (b2 : Fp) (ax : Fp) (ad : Option Addr) (an : Nat) (ch : Fp) (e4 : Fp) (F' : Fz), Fz.le mY F' ∧ HS (Base.of H []) F' H' [g6, ax, e4, [(N, .cells [(.slice ad cc.length an)] none false)], g4, b2, ch] R ∧ OS F' (.slice V a3.length Z) a3 b2 ∧ OS F' (.slice ad cc.length an) cc ax ∧ SF F' a3 b9 ch ∧ SF F' cc dv e4 ∧ aD f [(1, (.pointer (some ⟨b1, 0, none⟩))), (3, (.pointer (some ⟨N, 0, none⟩))), (15, (.slice V a3.length Z)), (16, (iI (k : Int))), (17, (iI (n : Int))), (106, (iI (c4.length : Int))), (107, (iI (k : Int)))] ∧ mm = c.regs.toNat - n ∧ (RwF c dv (j9 c)) ∧ (b9.length = c.regs.toNat) ∧ (∀ r, r < k → Lst (cN b9 r) (Sy (j9 c) r)) ∧ (∀ r, k < r → cN b9 r = []) ∧ (Lst (cN b9 k) (upS dv k n)) ∧ (n ≤ c.regs.toNat)) _ ⟨hC, lh, oh, ol, 0, a5, a6, c0, bz, be, bl, e3, dn, _, fR, k7, d2, h9, e1, hD, ⟨rfl, rfl, rfl, rfl, rfl, rfl, rfl, trivial⟩, rfl, (by exact mV), (by omega), (by exact mO), (by exact fun r hr => mP r (by omega)), (by rw [mP k (a09 _)]; exact up_zero), (by omega)⟩ ?_
  rintro oD oX oI ⟨cc, dv, a3, b9, n, V, Z, b2, ax, ad, an, ch, e4, lp, hM, e0, b0, bk, e2, f9, k0, rfl, hF, mQ, lY, lZ, k6, hn⟩ lc
  refine ap _ k0 (fun _ => ?_)
  clear k0
  have ne := FAM.len e2
  have m9 := FAM.len f9
  have nq := hF.len
  have ns := hF.row k (by omega)
  have o6 : ((b9.getD k default).length : Int) ≤ c.regs := Lst.len k6 hrg.1 (fun r h => by have := h.2; omega)
  refine ah 2 rfl (wU 1 [(2, .o (iI c.regs))] 110 113 [] [(113, (.bool (decide ((n : Int) < c.regs))))] (ql 3 1 (HS.hc e0 (i := 0) rfl) rfl rfl) rfl fun _ => am 4 5 (v := (decide ((n : Int) < c.regs))) rfl rfl rfl rfl (fun hI => ?_) (fun hI => ?_))
  ·
   have i3 := hI
   try simp only [BS] at i3
   have nq := hF.len
   have ns := hF.row k (by omega)
   obtain ⟨n6, mJ⟩ := Sv.view (OS.sv bk e0 (i := 1) rfl)
   obtain ⟨mx, kz, c5, d1, kT⟩ := SF.open f9 e0 (q := 2) (i := k) rfl (by omega)
   have c5 : HS _ _ _ [_, ax, mx, [(N, .cells [(.slice ad cc.length an)] none false)], _, b2, ch, kz] _ := c5
   have d1 : OS lp (.slice (cc.getD k default).a (cc.getD k default).n (cc.getD k default).k) (dv.getD k default) kz := d1
   have oz := OS.nlen d1
   obtain ⟨n7, lb⟩ := Sv.view (OS.sv d1 c5 (i := 7) rfl)
   have o3 := fU (lb (n / 64))
   refine wR 1 [(0, .o (.slice ad cc.length an)), (3, .o (.slice (cc.getD k default).a (cc.getD k default).n (cc.getD k default).k)), (7, .o (.int .u64 ((dv.getD k default).getD (n / 64) default).n))] 116 129 [] [(129, (.bool (aQ .and .u64 (Int.fdiv ((dv.getD k default).getD (n / 64) default).n (2 ^ (Nat.min (n % 64) 64))) 1 == 1)))] (vA (ql 85 0 (HS.hc e0 (i := 3) rfl) rfl rfl) (vA (Sv.ix (j := (k : Int)) (OS.sv bk e0 (i := 1) rfl) (by omega) (by omega)) (vA (ql 86 0 (vH (mJ k) (by omega)) rfl rfl) (vA (vA (show (64 : Int) ≠ 0 from by decide) (vi (n := ((n / 64 : Nat) : Int)) (by omega))) (vA (Sv.ix (j := ((n / 64 : Nat) : Int)) (OS.sv d1 c5 (i := 7) rfl) (by omega) (by omega)) (vA (ql 87 0 (vU (lb (n / 64)) (by omega)) rfl rfl) (vA (show (64 : Int) ≠ 0 from by decide) (vA (vu (n := ((n % 64 : Nat) : Int)) (by omega)) (vA (show (0 : Int) ≤ ((n % 64 : Nat) : Int) from by omega) trivial))))))))) rfl fun _ => am 0 2 (v := (aQ .and .u64 (Int.fdiv ((dv.getD k default).getD (n / 64) default).n (2 ^ (Nat.min (n % 64) 64))) 1 == 1)) rfl rfl rfl rfl (fun hK => ?_) (fun hK => ?_)
   ·
    have ja := hK
    try simp only [BS] at ja
    have hbit := ij (s := dv.getD k default) (k := n / 64) (b := n % 64) (by assumption) (by omega)
    rw [show 64 * (n / 64) + n % 64 = n by omega] at hbit
    refine aa ?_
    obtain ⟨n8, mK⟩ := Sv.view (OS.sv b0 c5 (i := 5) rfl)
    obtain ⟨my, kP, hX, g7, mz⟩ := SF.open e2 c5 (q := 6) (i := k) rfl (by omega)
    have hX : HS _ _ _ [_, _, _, _, _, _, my, _, kP] _ := hX
    have g7 : OS lp (.slice (a3.getD k default).a (a3.getD k default).n (a3.getD k default).k) (b9.getD k default) kP := g7
    have oA := OS.nlen g7
    refine wRo 7 0 [(5, .o (.slice (a3.getD k default).a (a3.getD k default).n (a3.getD k default).k))] 130 136 [] [(130, (.slice V a3.length Z)), (131, (iI (k : Int))), (135, (.slice (a3.getD k default).a (a3.getD k default).n (a3.getD k default).k)), (136, (iI (n : Int)))] (vA (Sv.ix (j := (k : Int)) (OS.sv b0 c5 (i := 5) rfl) (by omega) (by omega)) (vA (ql 25 0 (vH (mK k) (by omega)) rfl rfl) trivial)) rfl fun _ => aG (bt (α := Int) (ps := [(0, (iI (n : Int)))]) (cells := [(iI (n : Int))]) ([(n : Int)] : List Int) hX rfl rfl rfl (by kernel_rfl) ⟨[(iI (n : Int))], [], rfl, ⟨rfl, by omega⟩, rfl⟩ rfl) rfl rfl ?_
    rintro _ oJ nK ⟨oO, pf, rfl, mE, (k8 : HS _ _ _ [_, _, _, _, _, _, _, _, _, nK] _), _⟩
    refine aG (bw (α := Int) (q := 8) g7 k8 rfl rfl rfl (OS.sv mE k8 (i := 9) rfl) rfl rfl rfl rfl rfl rfl rfl (by (simp only [a05, a0a, a0e]; omega))) rfl rfl ?_
    rintro _ oK nL ⟨hG, h8, rfl, mF, (la : HS _ _ _ [_, _, _, _, _, _, _, _, nL, _] _), _⟩
    refine wUo 1 9 [] 139 139 [] [(139, (.pointer (some ⟨sB (.slice V a3.length Z), sO (.slice V a3.length Z) + k * Rp.sz Hd, none⟩)))] (Sv.ix (j := (k : Int)) (OS.sv b0 la (i := 5) rfl) (by omega) (by omega)) rfl fun _ => ?_
    obtain ⟨kQ, hY, k3⟩ := SF.shutN (⟨hG, ((b9.getD k default) ++ ([(n : Int)] : List Int)).length, h8⟩ : Hd) mz fR la (q := 6) (m := 8) (by decide) rfl rfl mF
    have hY : HS _ _ _ [_, _, _, _, _, _, kQ, _, [], _] _ := hY
    have oa := FAM.len k3
    refine aN (db (α := Hd) (j := k) (off := 0) (q := 5) (⟨hG, ((b9.getD k default) ++ ([(n : Int)] : List Int)).length, h8⟩ : Hd) b0 hY rfl rfl rfl rfl rfl rfl rfl rfl (aM (x := default) (by omega)) rfl (by rintro cs rfl; exact ⟨a07 rfl, rfl⟩)) rfl ?_
    rintro _ oL mr ⟨hW, (mI : HS _ _ _ [_, _, _, _, _, mr, _, _, _, _] _), _⟩
    have nY := OS.len' hW
    refine ae 2 rfl (wU 1 [] 114 115 [17] [(17, (iI ((n : Int) + 1)))] (vi (n := (n : Int) + 1) (by omega)) rfl fun _ => ?_)
    obtain ⟨kR, h0, k4⟩ := SF.shut0 kT fR mI (q := 2) (m := 7) (by decide) rfl rfl d1
    have h0 : HS _ _ _ [_, _, kR, _, _, _, _, [], _, _] _ := h0
    have ob := FAM.len k4
    refine lc _ _ _ ?_ ⟨cc, dv, a3.set k (⟨hG, ((b9.getD k default) ++ ([(n : Int)] : List Int)).length, h8⟩ : Hd), b9.set k ((b9.getD k default) ++ ([(n : Int)] : List Int)), n + 1, V, Z, mr, ax, ad, an, kQ, kR, _, (hM), (HS.sub h0 (a03 _ _)), (OS.norm hW), bk, k3, k4, (agC rfl (agC rfl (agC (show Value.slice V a3.length Z = Value.slice V (a3.set k (⟨hG, ((b9.getD k default) ++ ([(n : Int)] : List Int)).length, h8⟩ : Hd)).length Z by rw [OS.len' hW]) ⟨rfl, rfl, rfl, rfl, trivial⟩))), rfl, (by assumption), (by (rw [a0h]; exact mQ)), (by exact fun r hr => by (rw [cy (by omega), if_neg (by omega)]; exact lY r hr)), (by exact fun r hr => by (rw [cy (by omega), if_neg (by omega)]; exact lZ r hr)), (by (rw [cy (by omega), if_pos rfl]; exact up_yes k6 (hbit.1 (by assumption)))), (by omega)⟩
    omega
   have ja := hK
   try simp only [BS] at ja
   have hbit := ij (s := dv.getD k default) (k := n / 64) (b := n % 64) (by assumption) (by omega)
   rw [show 64 * (n / 64) + n % 64 = n by omega] at hbit
   refine wU 1 [] 114 115 [17] [(17, (iI ((n : Int) + 1)))] (vi (n := (n : Int) + 1) (by omega)) rfl fun _ => ?_
   obtain ⟨kS, h1, k5⟩ := SF.shut0 kT fR c5 (q := 2) (m := 7) (by decide) rfl rfl d1
   have h1 : HS _ _ _ [_, _, kS, _, _, _, _, []] _ := h1
   have oc := FAM.len k5
   refine lc _ _ _ ?_ ⟨cc, dv, a3, b9, n + 1, V, Z, b2, ax, ad, an, ch, kS, _, (hM), (HS.sub h1 (a03 _ _)), b0, bk, e2, k5, ⟨rfl, rfl, rfl, rfl, rfl, rfl, rfl, trivial⟩, rfl, (by assumption), (by exact mQ), (by exact fun r hr => by exact lY r hr), (by exact fun r hr => by exact lZ r hr), (by exact up_no k6 (fun h => absurd (hbit.2 h) (by assumption))), (by omega)⟩
   omega
  have i3 := hI
  try simp only [BS] at i3
  refine wU 1 [] 107 107 [140] [(107, (iI ((k : Int) + 1)))] (vi (n := (k : Int) + 1) (by omega)) rfl fun _ => mL _ _ _ ?_ ⟨cc, dv, a3, b9, k + 1, V, Z, b2, ax, ad, an, ch, e4, _, (fT (kU) hM), e0, b0, bk, e2, f9, ⟨rfl, rfl, rfl, rfl, rfl, trivial⟩, rfl, (by exact hF), (by omega), (by exact fin_row hF (by omega) vF (by omega) lY k6), (by exact fun r hr => lZ r (by omega)), (by omega)⟩
  omega
 have i2 := hH
 try simp only [BS] at i2
 refine wT 1 [] 2 2 [141] [(2, (.slice a5 oh.length a6))] rfl fun _ => ?_
 obtain ⟨oE, kV, h3, mA⟩ := SF.freeze e1 k7 (q := 6) rfl
 have h3 : HS _ _ _ [_, bz, dn, [(N, .cells [(.slice be hC.length bl)] none false)], _, c0, _] _ := h3
 replace d2 := d2.mono kV
 obtain ⟨oF, kW, h4, mG, ox⟩ := OS.frz d2 h3 (i := 5) rfl
 have h4 : HS _ _ _ [_, _, _, _, _, [], _] _ := h4
 have g8 := SR.rows mG (FAM.len e1) (fun i hi => SR.mono kW (mA i hi))
 have oB := SR.len' g8
 have n2 := SR.norm g8
 refine ak ⟨.inr rfl, _, rfl, a5, a6, ol, _, (fT (fT (fT (fT (fT (fT (kX) hQ) hg) hl) kU) kV) kW), (HS.forget h4), (Eq.trans (b := Value.slice a5 oh.length a6) rfl (by rw [SR.len' g8])), (SR.norm g8), (by exact fun _ => inf_of nZ (by omega) mO), (by exact fun h => absurd (hv.symm.trans h) (by decide))⟩
end Go.Proofs.YtknafdcgpaejlaaDoor.nb
