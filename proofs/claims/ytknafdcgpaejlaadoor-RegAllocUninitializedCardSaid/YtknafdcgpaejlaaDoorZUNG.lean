/-
 The allocator: what it gives, or that a register is read before it is written; by a symbolic run. No condition but those named.
-/
import Derived.Test.YtknafdcgpaejlaaDoorZUNC
import Derived.Test.YtknafdcgpaejlaaDoorZURD
import Derived.Test.YtknafdcgpaejlaaDoorZURC
noncomputable section
namespace Go.Proofs.YtknafdcgpaejlaaDoor.ng
open Go.R
set_option maxRecDepth 10000
set_option linter.unusedVariables false
set_option linter.unusedSimpArgs false
variable (ex : FuncId) {F : Fz} {H : Heap} {R : List Fp}
structure LocT where
 inS : Bool
 idx : Int
 deriving Inhabited, DecidableEq
instance : Rp LocT where
 sz := 2
 rep F cs x := cs = [.bool x.inS, .int .i64 x.idx] ∧ in64 x.idx
 len := by rintro F cs x ⟨rfl, _⟩; rfl
 one := by rintro F cs x ⟨rfl, _⟩; rfl
 mono := by intro F F' cs x _ h; exact h
structure SpiT where
 reg : Int
 why : Int
 blk : Int
 idx : Int
 oth : (List Int)
 deriving Inhabited, DecidableEq
instance : Rp SpiT where
 sz := 5
 rep F cs x := ∃ a4 k4, cs = [.int .i64 x.reg, .int .i64 x.why, .int .i64 x.blk, .int .i64 x.idx, .slice a4 x.oth.length k4] ∧ in64 x.reg ∧ in64 x.why ∧ in64 x.blk ∧ in64 x.idx ∧ SR F (.slice a4 x.oth.length k4) x.oth
 len := by rintro F cs x ⟨a4, k4, rfl, _⟩; rfl
 one := by rintro F cs x ⟨a4, k4, rfl, _⟩; rfl
 mono := by rintro F F' cs x hF ⟨a4, k4, rfl, h0, h1, h2, h3, h4⟩; exact ⟨a4, k4, rfl, h0, h1, h2, h3, h4.mono hF⟩
structure AllT where
 locs : (List LocT)
 spi : (List SpiT)
 slots : Int
 deriving Inhabited, DecidableEq
instance : Rp AllT where
 sz := 3
 rep F cs x := ∃ a0 k0 a1 k1, cs = [.slice a0 x.locs.length k0, .slice a1 x.spi.length k1, .int .i64 x.slots] ∧ in64 x.slots ∧ SR F (.slice a0 x.locs.length k0) x.locs ∧ SR F (.slice a1 x.spi.length k1) x.spi
 len := by rintro F cs x ⟨a0, k0, a1, k1, rfl, _⟩; rfl
 one := by rintro F cs x ⟨a0, k0, a1, k1, rfl, _⟩; rfl
 mono := by rintro F F' cs x hF ⟨a0, k0, a1, k1, rfl, h0, h1, h2⟩; exact ⟨a0, k0, a1, k1, rfl, h0, h1.mono hF, h2.mono hF⟩
structure PntT where
 blk : Int
 idx : Int
 deriving Inhabited, DecidableEq
instance : Rp PntT where
 sz := 2
 rep F cs x := cs = [.int .i64 x.blk, .int .i64 x.idx] ∧ in64 x.blk ∧ in64 x.idx
 len := by rintro F cs x ⟨rfl, _⟩; rfl
 one := by rintro F cs x ⟨rfl, _⟩; rfl
 mono := by intro F F' cs x _ h; exact h
open m1 m2 m3 m4 m5 m6 ma ml mb mc md mf mg mh mi mj na nb nc
theorem at_set0 {l : List Int} {i j : Nat} {x : Int} : (l.set i x).getD j 0 = if i = j ∧ j < l.length then x else l.getD j 0 := df
def conV2 (sp : List Bool) (x : Int) : Bool := !(sp.getD x.toNat false)
def uns (sp : List Bool) (l : List Int) : List Int := l.filter (conV2 sp)
theorem hP {sp : List Bool} {l o : List Int} {i : Nat} (h : i < l.length) (ho : o = uns sp (l.take i)) : (sp.getD (l.getD i 0).toNat false = false → o ++ [l.getD i 0] = uns sp (l.take (i + 1))) ∧ (sp.getD (l.getD i 0).toNat false = true → o = uns sp (l.take (i + 1))) := by
 unfold uns at ho ⊢
 rw [bj h (d := 0), List.filter_append, ← ho]
 constructor
 ·
  intro hc; unfold conV2; rw [a1m, hc]; rfl
 intro hc; unfold conV2; rw [a1m, hc]; simp
theorem jY {sp : List Bool} {l : List Int} : (uns sp l).length ≤ l.length := a1p _ _
theorem jX {sp : List Bool} {l : List Int} {x : Int} (h : x ∈ uns sp l) : x ∈ l ∧ sp.getD x.toNat false = false := by
 unfold uns conV2 at h
 rw [a1w] at h
 exact ⟨h.1, by simpa using h.2⟩
theorem j2 {sp : List Bool} {i j : Nat} : (sp.set i true).getD j false = true ↔ (i = j ∧ i < sp.length) ∨ sp.getD j false = true := by
 rw [df]
 by_cases h : i = j ∧ j < sp.length
 ·
  obtain ⟨rfl, E⟩ := h
  rw [if_pos ⟨rfl, E⟩]; exact ⟨fun _ => .inl ⟨rfl, E⟩, fun _ => rfl⟩
 rw [if_neg h]
 exact ⟨.inr, fun J => J.elim (fun A => absurd ⟨A.1, A.1 ▸ A.2⟩ h) id⟩
theorem set_false {sp : List Bool} {i j : Nat} (h : (sp.set i true).getD j false = false) : sp.getD j false = false := by
 rcases hb : sp.getD j false with _ | _
 ·
  rfl
 rw [j2.2 (.inr hb)] at h; exact h
theorem uns_lt {sp : List Bool} {l : List Int} {x : Int} (hx : x ∈ l) (hl : x.toNat < sp.length) : (uns (sp.set x.toNat true) l).length < l.length := by
 unfold uns
 rcases a0j (l.filter (conV2 (sp.set x.toNat true))).length l.length with h | h
 ·
  exact h
 exfalso
 have E := a1p (conV2 (sp.set x.toNat true)) l
 have A := (List.length_filter_eq_length_iff.1 (Nat.le_antisymm E h)) x hx
 unfold conV2 at A
 rw [j2.2 (.inl ⟨rfl, hl⟩)] at A
 cases A
structure SpF (c : VFnT) (sp : List Bool) (sl : List SpiT) : Prop where
 len : sp.length = c.regs.toNat
 cnt : sl.length ≤ 3000 + sp.count true
theorem cnt_set {l : List Bool} : ∀ {i : Nat}, i < l.length → l.getD i false = false → (l.set i true).count true = l.count true + 1 := by
 induction l with
 | nil => intro i h; exact absurd h (a1f _)
 | cons b l ih =>
  intro i h A
  cases i with
  | zero =>
   have A : b = false := A
   subst A
   rw [List.set_cons_zero, List.count_cons_self, List.count_cons_of_ne (by decide)]
  | succ i =>
   rw [a1J, List.count_cons, List.count_cons, ih (Nat.lt_of_succ_lt_succ h) A]; omega
theorem SpF.set {c : VFnT} {sp : List Bool} {sl sl' : List SpiT} {r : Nat} (h : SpF c sp sl) (hr : r < c.regs.toNat) (hs : sp.getD r false = false) (hl : sl'.length = sl.length + 1) : SpF c (sp.set r true) sl' := by
 have A := h.len
 have E := h.cnt
 exact ⟨a0h.trans A, by rw [cnt_set (by omega) hs]; omega⟩
theorem SpF.small {c : VFnT} {sp : List Bool} {sl : List SpiT} (h : SpF c sp sl) (v : VF c) : sl.length ≤ 6000 := by
 have A := h.len
 have E := h.cnt
 have J := v.regs
 have N := a20 (a := true) (l := sp)
 omega
theorem spf_0 {c : VFnT} {sp : List Bool} {sl : List SpiT} {q : Nat} (A : sp.length = c.regs.toNat) (E : sl.length ≤ q) (J : q ≤ 3000) : SpF c sp sl := ⟨A, by omega⟩
theorem rw_rng {v : VInT} {l : List Int} {a m : Int} (A : ∀ x ∈ az v, 0 ≤ x ∧ x < m) (E : ∀ x ∈ l, 0 ≤ x ∧ x < m) : ∀ x ∈ az v ++ da l [a], 0 ≤ x ∧ x < m := fun x hx => (a04.1 hx).elim (A x) fun h => E x (a1w.1 h).1
theorem lst_rng {c : VFnT} {l : List Int} {S : Nat → Prop} (h : Lst l S) (hs : ∀ r, S r → (r : Int) < c.regs) : ∀ x ∈ l, 0 ≤ x ∧ x < c.regs := fun x hx => by
 obtain ⟨E, A⟩ := (h.mem x).1 hx
 have := hs _ A
 omega
theorem mem_mono {l m : List Int} {lo hi : Int} (h : ∀ x ∈ l, lo ≤ x ∧ x < hi) (hm : ∀ x ∈ m, x ∈ l) : ∀ x ∈ m, lo ≤ x ∧ x < hi := fun x hx => h x (hm x hx)
theorem inte_lt {c : VFnT} (v : VF c) {a x : Nat} (h : j9 c a x) : (a : Int) < c.regs ∧ (x : Int) < c.regs ∧ x ≠ a := by
 obtain ⟨b, i, A, E, J, N, T⟩ := h
 refine ⟨((bV (v.ins b A i E)).2.1 _ J).2, gX v A N, fun e => ?_⟩
 have := T.1
 omega
theorem sy_lt {c : VFnT} (v : VF c) {r y : Nat} (h : Sy (j9 c) r y) : (y : Int) < c.regs ∧ y ≠ r := by
 rcases h with h | h
 ·
  have := inte_lt v h; exact ⟨this.2.1, this.2.2⟩
 have := inte_lt v h; exact ⟨this.1, fun e => this.2.2 e.symm⟩
structure LocF (c : VFnT) (sp : List Bool) (ll : List LocT) (r : Nat) : Prop where
 rng : ∀ j, j < r → (ll.getD j default).inS = false ∧ 0 ≤ (ll.getD j default).idx ∧ (ll.getD j default).idx < 5
 far : ∀ i j, i < j → j < r → sp.getD i false = false → sp.getD j false = false → Sy (j9 c) j i → (ll.getD i default).idx ≠ (ll.getD j default).idx
 out : ∀ j, r ≤ j → ll.getD j default = default
theorem loc_zero {c : VFnT} {sp : List Bool} {n : Nat} : LocF c sp (List.replicate n (default : LocT)) 0 := ⟨fun j hj => absurd hj (a1f _), fun i j _ hj => absurd hj (a1f _), fun j _ => by rw [a01, a1i]; split <;> rfl⟩
theorem LocF.rng1 {c : VFnT} {sp : List Bool} {ll : List LocT} {r j : Nat} (h : LocF c sp ll r) : (ll.getD j default).inS = false ∧ 0 ≤ (ll.getD j default).idx ∧ (ll.getD j default).idx < 5 := by
 rcases a0j j r with A | A
 ·
  exact h.rng j A
 rw [h.out j A]; decide
theorem LocF.skip {c : VFnT} {sp sp' : List Bool} {ll : List LocT} {r : Nat} (h : LocF c sp ll r) (hs : ∀ j, sp'.getD j false = false → sp.getD j false = false) (hr : sp'.getD r false = true) : LocF c sp' ll (r + 1) := by
 refine ⟨fun j hj => h.rng1, fun i j hij hj J A N => ?_, fun j hj => h.out j (by omega)⟩
 rcases a0j j r with E | E
 ·
  exact h.far i j hij E (hs i J) (hs j A) N
 rw [show j = r by omega, hr] at A; cases A
theorem LocF.set {c : VFnT} {sp : List Bool} {ll : List LocT} {r : Nat} {x : LocT} (h : LocF c sp ll r) (hr : r < ll.length) (hx : x.inS = false ∧ 0 ≤ x.idx ∧ x.idx < 5) (hd : ∀ i, i < r → sp.getD i false = false → Sy (j9 c) r i → (ll.getD i default).idx ≠ x.idx) : LocF c sp (ll.set r x) (r + 1) := by
 have e : ∀ j, (ll.set r x).getD j default = if r = j then x else ll.getD j default := fun j => by
  rw [df]
  by_cases A : r = j
  ·
   rw [if_pos ⟨A, by omega⟩, if_pos A]
  rw [if_neg (fun E => A E.1), if_neg A]
 refine ⟨fun j hj => ?_, fun i j hij hj A E J => ?_, fun j hj => ?_⟩
 ·
  rw [e]; split
  ·
   exact hx
  exact h.rng1
 ·
  rw [e, e, if_neg (by omega)]
  by_cases N : r = j
  ·
   subst N; rw [if_pos rfl]; exact hd i hij A J
  rw [if_neg N]; exact h.far i j hij (by omega) A E J
 rw [e, if_neg (by omega)]; exact h.out j (by omega)
structure OwF (sp : List Bool) (ll : List LocT) (r : Nat) (row : List Int) (p : Nat) (ow : List Int) : Prop where
 len : ow.length = 5
 has : ∀ q, q < p → row.getD q 0 < (r : Int) → sp.getD (row.getD q 0).toNat false = false → 0 ≤ ow.getD (ll.getD (row.getD q 0).toNat default).idx.toNat 0
theorem ow_zero {sp : List Bool} {ll : List LocT} {r : Nat} {row ow : List Int} (hl : ow.length = 5) : OwF sp ll r row 0 ow := ⟨hl, fun q hq => absurd hq (a1f _)⟩
theorem ow_no {sp : List Bool} {ll : List LocT} {r p : Nat} {row ow : List Int} (h : OwF sp ll r row p ow) (hn : row.getD p 0 < (r : Int) → sp.getD (row.getD p 0).toNat false = false → 0 ≤ ow.getD (ll.getD (row.getD p 0).toNat default).idx.toNat 0) : OwF sp ll r row (p + 1) ow := ⟨h.len, fun q hq A E => by
 rcases a0j q p with J | J
 ·
  exact h.has q J A E
 have N : q = p := by omega
 subst N; exact hn A E⟩
theorem ow_set {sp : List Bool} {ll : List LocT} {r p : Nat} {row ow : List Int} (h : OwF sp ll r row p ow) (hn : 0 ≤ row.getD p 0) (hi : (ll.getD (row.getD p 0).toNat default).idx.toNat < 5) : OwF sp ll r row (p + 1) (ow.set (ll.getD (row.getD p 0).toNat default).idx.toNat (row.getD p 0)) := by
 have hl := h.len
 have e : ∀ j, 0 ≤ ow.getD j 0 ∨ (ll.getD (row.getD p 0).toNat default).idx.toNat = j → 0 ≤ (ow.set (ll.getD (row.getD p 0).toNat default).idx.toNat (row.getD p 0)).getD j 0 := fun j hj => by
  rw [at_set0]
  by_cases A : (ll.getD (row.getD p 0).toNat default).idx.toNat = j
  ·
   rw [if_pos ⟨A, by omega⟩]; exact hn
  rw [if_neg (fun E => A E.1)]; exact hj.resolve_right A
 refine ⟨a0h.trans hl, fun q hq A E => e _ ?_⟩
 rcases a0j q p with J | J
 ·
  exact .inl (h.has q J A E)
 rw [show q = p by omega]; exact .inr rfl
theorem ow_end {c : VFnT} {sp : List Bool} {ll : List LocT} {r p k : Nat} {row ow : List Int} (h : OwF sp ll r row p ow) (hp : row.length ≤ p) (hl : Lst row (Sy (j9 c) r)) (hf : LocF c sp ll r) (hk : ow.getD k 0 < 0) : ∀ i, i < r → sp.getD i false = false → Sy (j9 c) r i → (ll.getD i default).idx ≠ (k : Int) := fun i hi hs hy e => by
 obtain ⟨q, hq, E⟩ := a0y.1 ((hl.mem (i : Int)).2 ⟨by omega, by rw [show ((i : Nat) : Int).toNat = i by omega]; exact hy⟩)
 have A : row.getD q 0 = (i : Int) := by rw [a01, a06 hq]; exact E
 have J := h.has q (by omega) (by omega) (by rw [A, show ((i : Nat) : Int).toNat = i by omega]; exact hs)
 rw [A, show ((i : Nat) : Int).toNat = i by omega, e, show ((k : Nat) : Int).toNat = k by omega] at J
 omega
structure FinF (c : VFnT) (sp : List Bool) (ll lf : List LocT) (r : Nat) (s : Int) : Prop where
 len : lf.length = c.regs.toNat
 cnt : s = c.params + (sp.take r).count true
 old : ∀ j, r ≤ j ∨ sp.getD j false = false → lf.getD j default = ll.getD j default
 new : ∀ j, j < r → sp.getD j false = true → lf.getD j default = ⟨true, c.params + (sp.take j).count true⟩
theorem fin_zero {c : VFnT} {sp : List Bool} {ll : List LocT} (h : ll.length = c.regs.toNat) : FinF c sp ll ll 0 c.params := ⟨h, by simp, fun _ _ => rfl, fun j hj => absurd hj (a1f _)⟩
theorem fin_no {c : VFnT} {sp : List Bool} {ll lf : List LocT} {r : Nat} {s : Int} (h : FinF c sp ll lf r s) (hr : r < sp.length) (hs : sp.getD r false = false) : FinF c sp ll lf (r + 1) s := ⟨h.len, by
 rw [bj hr (d := false), a1O, hs, h.cnt]; simp, fun j hj => h.old j (hj.imp (fun h => by omega) id), fun j hj A => by
 rcases a0j j r with E | E
 ·
  exact h.new j E A
 rw [show j = r by omega, hs] at A; cases A⟩
theorem fin_yes {c : VFnT} {sp : List Bool} {ll lf : List LocT} {r : Nat} {s : Int} (h : FinF c sp ll lf r s) (hr : r < sp.length) (hl : sp.length = c.regs.toNat) (hs : sp.getD r false = true) : FinF c sp ll (lf.set r ⟨true, s⟩) (r + 1) (s + 1) := by
 have e : ∀ j, (lf.set r (⟨true, s⟩ : LocT)).getD j default = if r = j then ⟨true, s⟩ else lf.getD j default := fun j => by
  rw [df]
  by_cases A : r = j
  ·
   rw [if_pos ⟨A, by have := h.len; omega⟩, if_pos A]
  rw [if_neg (fun E => A E.1), if_neg A]
 refine ⟨a0h.trans h.len, ?_, fun j hj => ?_, fun j hj E => ?_⟩
 ·
  rw [bj hr (d := false), a1O, hs, h.cnt]
  have : List.count true [true] = 1 := rfl
  rw [this]; omega
 ·
  rw [e, if_neg ?_]
  ·
   exact h.old j (hj.imp (fun h => by omega) id)
  rintro rfl
  rcases hj with hj | hj
  ·
   omega
  rw [hs] at hj; cases hj
 rw [e]
 by_cases J : r = j
 ·
  subst J; rw [if_pos rfl, h.cnt]
 rw [if_neg J]; exact h.new j (by omega) E
theorem fin_lim {c : VFnT} {sp : List Bool} {ll lf : List LocT} {r : Nat} {s : Int} (h : FinF c sp ll lf r s) (hp : 0 ≤ c.params) (hl : sp.length = c.regs.toNat) : 0 ≤ s ∧ s ≤ c.params + c.regs.toNat := by
 rw [h.cnt]
 have A := a20 (a := true) (l := sp.take r)
 rw [a0g] at A
 omega
def AlF (c : VFnT) (l : List LocT) : Prop := l.length = c.regs.toNat ∧ ∀ i j, i < j → j < c.regs.toNat → Sy (j9 c) j i → l.getD i default ≠ l.getD j default
theorem cnt_lt {sp : List Bool} : ∀ {i j : Nat}, i < j → i < sp.length → sp.getD i false = true → (sp.take i).count true < (sp.take j).count true := fun {i j} hij hi hs => by
 have E : (sp.take (i + 1)).count true = (sp.take i).count true + 1 := by
  rw [bj hi (d := false), a1O, hs]; rfl
 have A : sp.take (i + 1) = (sp.take j).take (i + 1) := by rw [a1S, a1K hij]
 have J : (sp.take (i + 1)).count true ≤ (sp.take j).count true := by rw [A]; exact (List.take_sublist _ _).count_le _
 omega
theorem fin_all {c : VFnT} {sp : List Bool} {ll lf : List LocT} {r : Nat} {s : Int} (h : FinF c sp ll lf r s) (hl : sp.length = c.regs.toNat) (hr : c.regs.toNat ≤ r) (hf : LocF c sp ll c.regs.toNat) : AlF c lf := ⟨h.len, fun i j hij hj hy e => by
 rcases hi : sp.getD i false with _ | _ <;> rcases A : sp.getD j false with _ | _
 ·
  rw [h.old i (.inr hi), h.old j (.inr A)] at e
  exact hf.far i j hij hj hi A hy (by rw [e])
 ·
  rw [h.old i (.inr hi), h.new j (by omega) A] at e
  have := (hf.rng i (by omega)).1
  rw [e] at this; cases this
 ·
  rw [h.new i (by omega) hi, h.old j (.inr A)] at e
  have := (hf.rng j hj).1
  rw [← e] at this; cases this
 rw [h.new i (by omega) hi, h.new j (by omega) A] at e
 have J := cnt_lt hij (by omega) hi
 have E := congrArg LocT.idx e
 simp only at E
 omega⟩
theorem lst_some {l : List Int} {S : Nat → Prop} (h : Lst l S) (hl : 0 < l.length) : ∃ r, S r := by
 cases l with
 | nil => exact absurd hl (Nat.lt_irrefl _)
 | cons x l => exact ⟨_, ((h.mem x).1 (a0B ..)).2⟩
set_option maxHeartbeats 8000000 in
theorem alloc_c {U : Option Addr} {V : Nat} (c : VFnT) (hs : HS (.of H []) F H [] R) (x9 : in64 c.params) (ya : in64 c.regs) (c5 : SR F (.slice U c.blocks.length V) c.blocks) (hT : TB 37 tabC F) (hins : ∀ j, (c.blocks.getD j default).ins.length ≤ 1073741822) (hv : d6 c = true) (hsm : c.params + c.regs ≤ 3000) : kKt ex 25 [(.agg ⟨[(iI c.params), (iI c.regs), (.slice U c.blocks.length V)]⟩)] H fun v H' => ∃ (x : AllT) (qr : Option Addr) (rj : Nat) (qs : Option Addr) (rk : Nat) (e : Int) (F' : Fz), Fz.le F F' ∧ HS (.of H []) F' H' [] R ∧ v = .tuple ⟨[.agg ⟨[.slice qr x.locs.length rj, .slice qs x.spi.length rk, .int .i64 x.slots]⟩, .int .i64 e]⟩ ∧ in64 x.slots ∧ SR F' (.slice qr x.locs.length rj) x.locs ∧ SR F' (.slice qs x.spi.length rk) x.spi ∧ ((∃ r, ptS c 0 0 r) → e = 205) ∧ ((∀ r, ¬ ptS c 0 0 r) → e = 0 ∧ AlF c x.locs) := by
 have vF := iE hv
 have hnb := vF.nb
 have hrg := vF.regs
 have hpr := vF.params
 have y2 := hins 0
 have hslr : (List.replicate c.regs.toNat false).length = c.regs.toNat := a0I
 have yd : (List.replicate c.regs.toNat (default : LocT)).length = c.regs.toNat := a0I
 refine aH Tryd.func25 rfl rfl (ah 1 rfl (aa (aG (bG hs rfl rfl) rfl rfl ?_)))
 rintro _ H2 _ ⟨b1, rfl, (va : HS _ _ _ [[(b1, .cells [(iI c.params), (iI c.regs), (.slice U c.blocks.length V)] none false)]] _), _⟩
 refine aG (bp va rfl) rfl rfl ?_
 rintro _ H4 _ ⟨b3, rfl, (q2 : HS _ _ _ [_, [(b3, .cells [(.slice none 0 0), (.slice none 0 0), (iI 0)] none false)]] _), _⟩
 let lQ : Value := (.agg ⟨[(iI c.params), (iI c.regs), (.slice U c.blocks.length V)]⟩)
 refine wa (iI 0) rfl rfl rfl (ae 3 rfl (aa (wUo 1 0 [(0, .o lQ)] 6 6 [] [(6, lQ)] (qn 24 0 3 (HS.hc q2 (i := 0) rfl) rfl rfl rfl rfl) rfl fun _ => aA (aq rfl rfl rfl) rfl rfl (m3.iD ex c (HS.call q2) (by omega) (by omega) c5 hT (by exact fun j => a0c (hins j) (by omega))) ?_)))
 rintro _ H6 ⟨r6, F6, pq, nh, rfl, rfl⟩
 replace nh : HS _ _ _ [_, _] _ := HS.back q2 rfl nh
 replace hT := hT.mono pq
 replace c5 := c5.mono pq
 refine wTo 1 2 [] 8 8 [] [(8, (.bool (!(d6 c))))] rfl fun _ => ae 1 rfl (wk_iff 2 (v := (!(d6 c))) rfl (by rw [hv]; rfl) rfl rfl (aS rfl (aF (v := lQ) (id := .l b1) (eL (i := 0) rfl rfl rfl (HS.hc nh.log0 (i := 0) rfl) rfl rfl rfl) rfl rfl (bx rfl) trivial (aF (v := lQ) (id := .l b1) (eL (i := 0) rfl rfl rfl (HS.hc nh.log0 (i := 0) rfl) rfl rfl rfl) rfl rfl (bx rfl) (kb rfl) ?_))))
 refine bY (W := []) (aq rfl rfl rfl) rfl rfl rfl (na.points_c ex c (HS.call nh.log0) (by omega) (by omega) c5 hT (by omega) (by omega)) (⟨.inl rfl, ⟨.inr a0i, trivial⟩⟩) ?_
 rintro _ H8 ⟨an, ar, E, p8, F8, pr, lB, rfl, b7, h8⟩
 refine ⟨Wr.did lB.log, fun vb t7 => ?_⟩
 replace lB := HS.back nh.log0 rfl lB
 replace lB := HS.lg lB nh t7
 generalize ({ H8 with log := vb } : Heap) = yS at lB ⊢
 have lB : HS _ _ _ [_, _, p8] _ := lB
 replace hT := hT.mono pr
 replace c5 := c5.mono pr
 refine wfv (v := (.pointer (some ⟨b1, 1, none⟩))) (bn rfl rfl) (aF (v := (iI c.regs)) (id := .l b1) (aU (i := 1) rfl rfl (HS.hc lB.log0 (i := 0) rfl) rfl rfl) rfl rfl (bx rfl) (⟨.inl rfl, ⟨.inr a0i, ⟨.inr trivial, ⟨.inr trivial, trivial⟩⟩⟩⟩) (bM (id := .x []) (cE false lB.log0 rfl rfl rfl rfl rfl rfl rfl rfl rfl rfl (by omega) (by omega)) rfl rfl (by rintro _ _ p9 ⟨a9, k9, rfl, nj, _, hwr⟩; exact bQ rfl rfl (Wr.did hwr)) (⟨.inl rfl, ⟨.inl rfl, ⟨.inr ⟨trivial, trivial⟩, ⟨.inr a0i, ⟨.inr a0i, trivial⟩⟩⟩⟩⟩) ?_))
 rintro _ uJ p9 ⟨a9, k9, rfl, nj, lS, _⟩ up rV
 replace lS := HS.lg lS lB rV
 generalize ({ uJ with log := up } : Heap) = wO at lS ⊢
 have lS : HS _ _ _ [_, _, _, p9] _ := lS
 refine wfv (v := (.agg ⟨[(iI c.params), (iI c.regs), (.slice U c.blocks.length V), (.slice an E.length ar), (.slice a9 (List.replicate c.regs.toNat false).length k9), (.slice none 0 0), (.slice none 0 0), (iI 0)]⟩)) (ap_bld rfl rfl (by kernel_rfl)) (bM (id := .a) (bG lS.log0 rfl rfl) rfl rfl (fun _ _ _ _ => gZ rfl rfl rfl) (kb rfl) ?_)
 rintro _ uK _ ⟨A, rfl, hG, _⟩ uq rW
 replace hG := HS.lg hG lS rW
 generalize ({ uK with log := uq } : Heap) = wY at hG ⊢
 have hG : HS _ _ _ [_, _, _, _, [(A, .cells [(iI c.params), (iI c.regs), (.slice U c.blocks.length V), (.slice an E.length ar), (.slice a9 (List.replicate c.regs.toNat false).length k9), (.slice none 0 0), (.slice none 0 0), (iI 0)] none false)]] _ := hG
 refine fa (.pointer (some ⟨A, 0, none⟩)) rfl rfl rfl (bT (ah 3 rfl ?_))
 have ps := (by assumption : PsF c _)
 have psl := ps.len
 have tx := ps.at_ 0 (by omega)
 have pxl := tx.len
 have pz : Lst ((E.getD 0 default).getD 0 default) (ptS c 0 0) := tx.pt 0 (a0S _)
 obtain ⟨qB, q5⟩ := Sv.view (OS.sv b7 hG (i := 2) rfl)
 have tz := fL (q5 0)
 obtain ⟨qC, q6⟩ := Sv.view (SR.sv tz hG)
 have y8 := fL (q6 0)
 refine wR 1 [(3, .o (.slice an E.length ar)), (5, .o (.slice (cA (qB 0) 0) (E.getD 0 default).length (cK (qB 0) 0))), (7, .o (.slice (cA (qC 0) 0) ((E.getD 0 default).getD 0 default).length (cK (qC 0) 0)))] 18 27 [] [(27, (.bool (decide ((0 : Int) < (((E.getD 0 default).getD 0 default).length : Int)))))] (vA (ql 90 3 (HS.hc hG (i := 4) rfl) rfl rfl) (vA (Sv.ix (j := 0) (OS.sv b7 hG (i := 2) rfl) (by decide) (by omega)) (vA (ql 32 0 (vL (q5 0) (by omega)) rfl rfl) (vA (Sv.ix (j := 0) (SR.sv tz hG) (by decide) (by omega)) (vA (ql 25 0 (vL (q6 0) (by omega)) rfl rfl) trivial))))) rfl fun _ => am 1 2 (v := (decide ((0 : Int) < (((E.getD 0 default).getD 0 default).length : Int)))) rfl rfl rfl rfl (fun oF => ?_) (fun oF => ?_)
 ·
  have qu := oF
  try simp only [BS] at qu
  have hz := lst_some pz (by omega)
  refine aa (wTo 1 0 [] 28 28 [] [(28, (.agg ⟨[(.slice none 0 0), (.slice none 0 0), (iI 0)]⟩))] rfl fun _ => aN (aI (q := 1) hG rfl rfl rfl rfl rfl rfl rfl rfl rfl) rfl ?_)
  rintro _ yC _ ⟨(qZ : HS _ _ _ [_, _, _, _, _] _), _⟩
  refine wa (iI 205) rfl rfl rfl (ae 1 rfl (ak ⟨.inr rfl, _, (rC rfl (ldVN rfl rfl (HS.hc qZ (i := 1) rfl) rfl) (rT rfl rN)), (⟨([] : List LocT), ([] : List SpiT), 0⟩ : AllT), none, 0, none, 0, 205, _, (fT (pq) pr), (HS.forget qZ), rfl, (by (dsimp only; omega)), (SR.nil : SR F8 (.slice none 0 0) ([] : List LocT)), (SR.nil : SR F8 (.slice none 0 0) ([] : List SpiT)), (by exact fun _ => rfl), (by exact fun h => (hz.elim fun r h2 => absurd h2 (h r)))⟩))
 have qu := oF
 try simp only [BS] at qu
 have hz : ∀ r, ¬ ptS c 0 0 r := fun r hr => by (have h8 := (pz.mem (r : Int)).2 ⟨by omega, by rw [show ((r : Nat) : Int).toNat = r by omega]; exact hr⟩; have h9 := List.length_pos_of_mem h8; omega)
 refine aa (wUo 3 0 [(2, .o (iI c.regs))] 29 31 [] [(29, (.pointer (some ⟨A, 0, none⟩))), (31, (iI c.regs))] (ql 3 1 (HS.hc hG (i := 0) rfl) rfl rfl) rfl fun _ => aG (cE (default : LocT) hG rfl rfl rfl rfl rfl rfl rfl rfl rfl ⟨rfl, by decide⟩ (by omega) (by omega)) rfl rfl ?_)
 rintro _ yD ds ⟨f2, f3, rfl, lR, (ue : HS _ _ _ [_, _, _, _, _, ds] _), _⟩
 refine wTo 3 4 [] 33 35 [] [(35, (.pointer (some ⟨A, 5, none⟩)))] rfl fun _ => aN (aI (q := 4) ue rfl rfl rfl rfl rfl rfl rfl rfl rfl) rfl ?_
 rintro _ yE _ ⟨(uf : HS _ _ _ [_, _, _, _, [(A, .cells [(iI c.params), (iI c.regs), (.slice U c.blocks.length V), (.slice an E.length ar), (.slice a9 (List.replicate c.regs.toNat false).length k9), (.slice f2 (List.replicate c.regs.toNat (default : LocT)).length f3), (.slice none 0 0), (iI 0)] none false)], _] _), _⟩
 refine ae 2 rfl (aa (wm (.pointer (some ⟨A, 0, none⟩)) rfl rfl rfl ?_))
 have n5 := HS.snoc uf
 have n5 : HS _ _ _ [_, _, _, _, _, _, []] _ := n5
 let c3 : Fp := [(b1, .cells [(iI c.params), (iI c.regs), (.slice U c.blocks.length V)] none false)]
 let c4 : Fp := [(b3, .cells [(.slice none 0 0), (.slice none 0 0), (iI 0)] none false)]
 refine aA (R := fun v H' => ∃ (spA : List Bool) (slA : List SpiT) (hY : Fp) (hS : Option Addr) (hW : Nat) (h0 : Fp) (hV : Option Addr) (hX : Nat) (F' : Fz), Fz.le F8 F' ∧ HS (Base.of H []) F' H' [c3, c4, p8, hY, [(A, .cells [(iI c.params), (iI c.regs), (.slice U c.blocks.length V), (.slice an E.length ar), (.slice hS spA.length hW), (.slice f2 (List.replicate c.regs.toNat (default : LocT)).length f3), (.slice hV slA.length hX), (iI 0)] none false)], ds, h0] R ∧ OS F' (.slice hS spA.length hW) spA hY ∧ OS F' (.slice hV slA.length hX) slA h0 ∧ v = .tuple #[] ∧ (SpF c spA slA)) (aq rfl rfl rfl) rfl rfl ?_ ?_
 ·
  refine aH Tryd.func60 rfl rfl (ah 1 rfl (aa (wUo 5 0 [(4, .o (iI c.regs))] 12 16 [] [(16, (iI c.regs))] (ql 3 1 (HS.hc n5 (i := 4) rfl) rfl rfl) rfl fun _ => aG (cE (default : PntT) n5 rfl rfl rfl rfl rfl rfl rfl rfl rfl ⟨rfl, by decide, by decide⟩ (by omega) (by omega)) rfl rfl ?_)))
  rintro _ yG tp ⟨tf, tk, rfl, t8, (q0 : HS _ _ _ [_, _, _, _, _, _, _, tp] _), _⟩
  refine wa (.slice tf (List.replicate c.regs.toNat (default : PntT)).length tk) rfl rfl rfl (ae 2 rfl (aa (wUo 5 0 [(4, .o (iI c.regs))] 18 22 [] [(22, (iI c.regs))] (ql 3 1 (HS.hc q0 (i := 4) rfl) rfl rfl) rfl fun _ => aG (cE false q0 rfl rfl rfl rfl rfl rfl rfl rfl rfl rfl (by omega) (by omega)) rfl rfl ?_)))
  rintro _ yH tq ⟨tg, tl, rfl, t9, (q1 : HS _ _ _ [_, _, _, _, _, _, _, _, tq] _), _⟩
  let rF : Fp := [(A, .cells [(iI c.params), (iI c.regs), (.slice U c.blocks.length V), (.slice an E.length ar), (.slice a9 (List.replicate c.regs.toNat false).length k9), (.slice f2 (List.replicate c.regs.toNat (default : LocT)).length f3), (.slice none 0 0), (iI 0)] none false)]
  refine wa (.slice tg (List.replicate c.regs.toNat false).length tl) rfl rfl rfl (ae 3 rfl (wU 2 [(4, .o (.slice U c.blocks.length V))] 24 30 [] [(28, (.slice U c.blocks.length V)), (29, (iI (c.blocks.length : Int))), (30, (iI 0))] (ql 22 2 (HS.hc q1 (i := 4) rfl) rfl rfl) rfl fun _ => aj (fun (mm : Nat) f H' => ∃ (a2 : List PntT) (ni : List Bool) (k : Nat) (bb : Option Addr) (be : Nat) (dv : Fp) (l9 : Option Addr) (mk : Nat) (d1 : Fp) (F' : Fz), Fz.le F8 F' ∧ HS (Base.of H []) F' H' [c3, c4, p8, p9, rF, ds, [], dv, d1] R ∧ OS F' (.slice bb a2.length be) a2 dv ∧ OS F' (.slice l9 ni.length mk) ni d1 ∧ aD f [(0, (.pointer (some ⟨A, 0, none⟩))), (2, (.slice bb a2.length be)), (3, (.slice l9 ni.length mk)), (28, (.slice U c.blocks.length V)), (29, (iI (c.blocks.length : Int))), (30, (iI (k : Int)))] ∧ mm = c.blocks.length - k ∧ (a2.length = c.regs.toNat) ∧ (ni.length = c.regs.toNat) ∧ (k ≤ c.blocks.length)) _ ⟨List.replicate c.regs.toNat (default : PntT), List.replicate c.regs.toNat false, 0, tf, tk, tp, tg, tl, tq, _, fR, q1, t8, t9, ⟨rfl, rfl, rfl, rfl, rfl, rfl, trivial⟩, rfl, (by simp), (by simp), (by omega)⟩ ?_))
  rintro yv yT yI ⟨a2, ni, k, bb, be, dv, l9, mk, d1, uF, mw, mz, kn, rl, qG, rfl, yq, yn, hk⟩ ul
  refine ap _ qG (fun _ => ?_)
  clear qG
  replace hT := hT.mono mw
  replace c5 := c5.mono mw
  replace nj := nj.mono mw
  replace b7 := b7.mono mw
  refine ah 1 rfl (wT 2 [] 31 31 [] [(31, (.bool (decide ((k : Int) < (c.blocks.length : Int)))))] rfl fun _ => am 4 5 (v := (decide ((k : Int) < (c.blocks.length : Int)))) rfl rfl rfl rfl (fun oO => ?_) (fun oO => ?_))
  ·
   have qv := oO
   try simp only [BS] at qv
   have hbn : k < c.blocks.length := by omega
   have hbl := hins k
   have px := ps.at_ k hbn
   have hpl : (E.getD k default).length = (c.blocks.getD k default).ins.length + 2 := px.len
   refine aa ?_
   obtain ⟨g4, q7⟩ := Sv.view (SR.sv c5 mz)
   obtain ⟨vT, vV, vW, vX, m0⟩ := BlkT.fx (q7 k)
   let tA : Value := (.agg ⟨[(.slice (cA (g4 k) 0) (c.blocks.getD k default).ins.length (cK (g4 k) 0)), (iI (c.blocks.getD k default).fin), (iI (c.blocks.getD k default).reg), (iI (c.blocks.getD k default).tgt), (iI (c.blocks.getD k default).els)]⟩)
   refine wRo 3 0 [(2, .o tA)] 32 34 [] [(32, (iI (k : Int))), (34, tA)] (vA (Sv.ix (j := (k : Int)) (SR.sv c5 mz) (by omega) (by omega)) (vA (qn 48 0 5 (BlkT.vw (q7 k) (by omega)) rfl rfl rfl rfl) trivial)) rfl fun _ => aG (bp mz rfl) rfl rfl ?_
   rintro _ yJ _ ⟨qt, rfl, (ug : HS _ _ _ [_, _, _, _, _, _, _, dv, d1, [(qt, .cells [(.slice none 0 0), (iI 0), (iI 0), (iI 0), (iI 0)] none false)]] _), _⟩
   refine wa (iI (k : Int)) rfl rfl rfl (aN (aI (q := 9) ug rfl rfl rfl rfl rfl rfl rfl rfl rfl) rfl ?_)
   rintro _ yK _ ⟨(q3 : HS _ _ _ [_, _, _, _, _, _, _, _, _, [(qt, .cells [(.slice (cA (g4 k) 0) (c.blocks.getD k default).ins.length (cK (g4 k) 0)), (iI (c.blocks.getD k default).fin), (iI (c.blocks.getD k default).reg), (iI (c.blocks.getD k default).tgt), (iI (c.blocks.getD k default).els)] none false)]] _), _⟩
   let tB : Fp := [(qt, .cells [(.slice (cA (g4 k) 0) (c.blocks.getD k default).ins.length (cK (g4 k) 0)), (iI (c.blocks.getD k default).fin), (iI (c.blocks.getD k default).reg), (iI (c.blocks.getD k default).tgt), (iI (c.blocks.getD k default).els)] none false)]
   refine ae 2 rfl (wU 2 [(1, .o (.slice (cA (g4 k) 0) (c.blocks.getD k default).ins.length (cK (g4 k) 0)))] 35 38 [] [(36, (.slice (cA (g4 k) 0) (c.blocks.getD k default).ins.length (cK (g4 k) 0))), (37, (iI ((c.blocks.getD k default).ins.length : Int))), (38, (iI 0))] (ql 46 0 (HS.hc q3 (i := 9) rfl) rfl rfl) rfl fun _ => aj (fun (mm : Nat) f H' => ∃ (mH : List PntT) (mG : List Bool) (i : Nat) (kZ : Option Addr) (k5 : Nat) (ko : Fp) (k0 : Option Addr) (k6 : Nat) (kr : Fp) (F' : Fz), Fz.le uF F' ∧ HS (Base.of H []) F' H' [c3, c4, p8, p9, rF, ds, [], ko, kr, tB] R ∧ OS F' (.slice kZ mH.length k5) mH ko ∧ OS F' (.slice k0 mG.length k6) mG kr ∧ aD f [(0, (.pointer (some ⟨A, 0, none⟩))), (2, (.slice kZ mH.length k5)), (3, (.slice k0 mG.length k6)), (4, (iI (k : Int))), (28, (.slice U c.blocks.length V)), (29, (iI (c.blocks.length : Int))), (30, (iI (k : Int))), (36, (.slice (cA (g4 k) 0) (c.blocks.getD k default).ins.length (cK (g4 k) 0))), (37, (iI ((c.blocks.getD k default).ins.length : Int))), (38, (iI (i : Int)))] ∧ mm = (c.blocks.getD k default).ins.length - i ∧ (mH.length = c.regs.toNat) ∧ (mG.length = c.regs.toNat) ∧ (i ≤ (c.blocks.getD k default).ins.length)) _ ⟨a2, ni, 0, bb, be, dv, l9, mk, d1, _, fR, q3, kn, rl, ⟨rfl, rfl, rfl, rfl, rfl, rfl, rfl, rfl, rfl, rfl, trivial⟩, rfl, (by omega), (by omega), (by omega)⟩ ?_)
   rintro yw yU yL ⟨mH, mG, i, kZ, k5, ko, k0, k6, kr, yA, mx, oa, lC, lD, qH, rfl, yr, yo, hi⟩ rf
   refine ap _ qH (fun _ => ?_)
   clear qH
   replace hT := hT.mono mx
   replace b7 := b7.mono mx
   replace m0 := m0.mono mx
   refine ah 1 rfl (wT 2 [] 39 39 [] [(39, (.bool (decide ((i : Int) < ((c.blocks.getD k default).ins.length : Int)))))] rfl fun _ => am 4 5 (v := (decide ((i : Int) < ((c.blocks.getD k default).ins.length : Int)))) rfl rfl rfl rfl (fun oP => ?_) (fun oP => ?_))
   ·
    have qw := oP
    try simp only [BS] at qw
    refine aa ?_
    obtain ⟨mu, q8⟩ := Sv.view (SR.sv m0 oa)
    obtain ⟨vY, vZ, v0, v1, v2, td⟩ := VInT.fx (q8 i)
    let pd : Value := (.agg ⟨[(iI ((c.blocks.getD k default).ins.getD i default).i.op), (iI ((c.blocks.getD k default).ins.getD i default).i.a), (iI ((c.blocks.getD k default).ins.getD i default).i.b), (iI ((c.blocks.getD k default).ins.getD i default).i.c), (iI ((c.blocks.getD k default).ins.getD i default).i.n), (.slice (cA (mu i) 5) ((c.blocks.getD k default).ins.getD i default).args.length (cK (mu i) 5))]⟩)
    refine wRo 3 0 [(2, .o pd)] 40 42 [] [(40, (iI (i : Int))), (42, pd)] (vA (Sv.ix (j := (i : Int)) (SR.sv m0 oa) (by omega) (by omega)) (vA (qn 52 0 6 (VInT.vw (q8 i) (by omega)) rfl rfl rfl rfl) trivial)) rfl fun _ => aG (bp oa rfl) rfl rfl ?_
    rintro _ yM _ ⟨m7, rfl, (uh : HS _ _ _ [_, _, _, _, _, _, _, ko, kr, _, [(m7, .cells [(iI 0), (iI 0), (iI 0), (iI 0), (iI 0), (.slice none 0 0)] none false)]] _), _⟩
    refine wa (iI (i : Int)) rfl rfl rfl (aN (aI (q := 10) uh rfl rfl rfl rfl rfl rfl rfl rfl rfl) rfl ?_)
    rintro _ yN _ ⟨(mA : HS _ _ _ [_, _, _, _, _, _, _, _, _, _, [(m7, .cells [(iI ((c.blocks.getD k default).ins.getD i default).i.op), (iI ((c.blocks.getD k default).ins.getD i default).i.a), (iI ((c.blocks.getD k default).ins.getD i default).i.b), (iI ((c.blocks.getD k default).ins.getD i default).i.c), (iI ((c.blocks.getD k default).ins.getD i default).i.n), (.slice (cA (mu i) 5) ((c.blocks.getD k default).ins.getD i default).args.length (cK (mu i) 5))] none false)]] _), _⟩
    refine ae 3 rfl (wU 1 [(2, .o (iI ((c.blocks.getD k default).ins.getD i default).i.op))] 43 46 [] [(46, (.bool (((c.blocks.getD k default).ins.getD i default).i.op != 6)))] (ql 3 0 (HS.hc mA (i := 10) rfl) rfl rfl) rfl fun _ => am 3 2 (v := (((c.blocks.getD k default).ins.getD i default).i.op != 6)) rfl rfl rfl rfl (fun oQ => ?_) (fun oQ => ?_))
    ·
     have qx := oQ
     try simp only [BS] at qx
     refine wU 1 [] 38 38 [85] [(38, (iI ((i : Int) + 1)))] (vi (n := (i : Int) + 1) (by omega)) rfl fun _ => rf _ _ _ ?_ ⟨mH, mG, i + 1, kZ, k5, ko, k0, k6, kr, _, (mx), (HS.sub mA (a03 _ _)), lC, lD, ⟨rfl, rfl, rfl, rfl, rfl, rfl, rfl, rfl, rfl, rfl, trivial⟩, rfl, (by omega), (by omega), (by omega)⟩
     omega
    have qx := oQ
    try simp only [BS] at qx
    have hin : i < (c.blocks.getD k default).ins.length := by omega
    have hvl : (∀ x ∈ az ((c.blocks.getD k default).ins.getD i default), 0 ≤ x ∧ x < c.regs) ∧ (∀ x ∈ ab ((c.blocks.getD k default).ins.getD i default), 0 ≤ x ∧ x < c.regs) ∧ ((c.blocks.getD k default).ins.getD i default).args.length ≤ 6 := bV (vF.ins k hbn i hin)
    have hrl := eh (v := ((c.blocks.getD k default).ins.getD i default))
    have plst : Lst ((E.getD k default).getD (i + 1) default) (ptS c k (i + 1)) := px.pt (i + 1) (show i + 1 ≤ (c.blocks.getD k default).ins.length by omega)
    have u9 := Lst.len plst hrg.1 (fun r h => gX vF hbn h)
    have hmm := min_len (a := ((E.getD k default).getD (i + 1) default)) (b := [((c.blocks.getD k default).ins.getD i default).i.a])
    have hxr := rw_rng (a := ((c.blocks.getD k default).ins.getD i default).i.a) hvl.1 (lst_rng plst (fun r h => gX vF hbn h))
    have hxl : (az ((c.blocks.getD k default).ins.getD i default) ++ da ((E.getD k default).getD (i + 1) default) [((c.blocks.getD k default).ins.getD i default).i.a]).length = (az ((c.blocks.getD k default).ins.getD i default)).length + (da ((E.getD k default).getD (i + 1) default) [((c.blocks.getD k default).ins.getD i default).i.a]).length := a05
    refine aS rfl (aF (v := pd) (id := .l m7) (eL (i := 0) rfl rfl rfl (HS.hc mA.log0 (i := 10) rfl) rfl rfl rfl) rfl rfl (bx rfl) trivial (bY (W := []) (aq rfl rfl rfl) rfl rfl rfl (ma.hO ex ((c.blocks.getD k default).ins.getD i default) (HS.call mA.log0) (by omega) (by omega) (by omega) (by omega) (by omega) td hT (by omega)) (kb rfl) ?_))
    rintro _ uL ⟨xD, yl, y6, ts, yB, ne, dt, rfl, nW, rfl⟩
    refine ⟨Wr.did dt.log, fun us rX => ?_⟩
    replace dt := HS.back mA.log0 rfl dt
    replace dt := HS.lg dt mA rX
    generalize ({ uL with log := us } : Heap) = xr at dt ⊢
    have dt : HS _ _ _ [_, _, _, _, _, _, _, _, _, _, _, ts] _ := dt
    replace hT := hT.mono ne
    replace b7 := b7.mono ne
    refine fm (.pointer (some ⟨A, 0, none⟩)) rfl rfl rfl (wfv (v := (.pointer (some ⟨A, 0, none⟩))) (cG rfl) (wfv (v := (.pointer (some ⟨A, 3, none⟩))) (bn rfl rfl) (aF (v := (.slice an E.length ar)) (id := .l A) (aU (i := 3) rfl rfl (HS.hc dt.log0 (i := 4) rfl) rfl rfl) rfl rfl (bx rfl) (⟨.inl rfl, ⟨.inl rfl, ⟨.inl rfl, ⟨.inr a0i, ⟨.inr trivial, trivial⟩⟩⟩⟩⟩) (fm (iI (k : Int)) rfl rfl rfl (wfv (v := (.pointer (some ⟨sB (.slice an E.length ar), sO (.slice an E.length ar) + k * Rp.sz (List (List Int)), none⟩))) (bh (α := (List (List Int))) (j := (k : Int)) rfl rfl rfl rfl (OS.sv b7 dt.log0 (i := 2) rfl) (by omega) (by omega)) ?_)))))
    obtain ⟨xI, ua, t3⟩ := Sv.at (OS.sv b7 dt.log0 (i := 2) rfl) (aM (x := default) (show k < E.length from by omega))
    obtain ⟨mL, mZ, rfl, qc⟩ := ua
    refine aF (v := (.slice mL (E.getD k default).length mZ)) (id := .l (sB (.slice an E.length ar))) (aU (i := 0) rfl rfl t3 rfl rfl) rfl rfl (bx rfl) (⟨.inl rfl, ⟨.inl rfl, ⟨.inl rfl, ⟨.inl rfl, ⟨.inl rfl, ⟨.inl rfl, ⟨.inr a0i, ⟨.inr trivial, trivial⟩⟩⟩⟩⟩⟩⟩⟩) (fm (iI (i : Int)) rfl rfl rfl (wfv (v := (iI ((i : Int) + 1))) (jQ rfl rfl (jT (n := (i : Int) + 1) (by omega))) (wfv (v := (.pointer (some ⟨sB (.slice mL (E.getD k default).length mZ), sO (.slice mL (E.getD k default).length mZ) + (i + 1) * Rp.sz (List Int), none⟩))) (bh (α := (List Int)) (j := (i : Int) + 1) rfl rfl rfl rfl (SR.sv qc dt.log0) (by omega) (by omega)) ?_)))
    obtain ⟨xJ, ub, t4⟩ := Sv.at (SR.sv qc dt.log0) (aM (x := default) (show i + 1 < (E.getD k default).length from by omega))
    obtain ⟨rH, sV, rfl, te⟩ := ub
    refine aF (v := (.slice rH ((E.getD k default).getD (i + 1) default).length sV)) (id := .l (sB (.slice mL (E.getD k default).length mZ))) (aU (i := 0) rfl rfl t4 rfl rfl) rfl rfl (bx rfl) (⟨.inl rfl, ⟨.inl rfl, ⟨.inl rfl, ⟨.inl rfl, ⟨.inl rfl, ⟨.inl rfl, ⟨.inl rfl, ⟨.inl rfl, ⟨.inl rfl, ⟨.inl rfl, ⟨.inr a0i, ⟨.inr trivial, trivial⟩⟩⟩⟩⟩⟩⟩⟩⟩⟩⟩⟩) (wfv (v := (.pointer (some ⟨m7, 0, none⟩))) (bn rfl rfl) (wfv (v := (.pointer (some ⟨m7, 1, none⟩))) (bn rfl rfl) (aF (v := (iI ((c.blocks.getD k default).ins.getD i default).i.a)) (id := .l m7) (aU (i := 1) rfl rfl (HS.hc dt.log0 (i := 10) rfl) rfl rfl) rfl rfl (bx rfl) (⟨.inl rfl, ⟨.inl rfl, ⟨.inr trivial, ⟨.inr trivial, ⟨.inr trivial, ⟨.inr trivial, ⟨.inr trivial, ⟨.inr trivial, ⟨.inr trivial, ⟨.inr trivial, ⟨.inr trivial, ⟨.inr trivial, ⟨.inr trivial, ⟨.inr a0i, ⟨.inr trivial, trivial⟩⟩⟩⟩⟩⟩⟩⟩⟩⟩⟩⟩⟩⟩⟩) (bY (W := []) (aq rfl rfl rfl) rfl rfl rfl (na.iy ex ((E.getD k default).getD (i + 1) default) ((c.blocks.getD k default).ins.getD i default).i.a (HS.call dt.log0) te (by omega) hT (by omega)) (kb rfl) ?_))))
    rintro _ uM ⟨xE, ym, y7, tt, uG, nN, kl, rfl, sn, rfl⟩
    refine ⟨Wr.did kl.log, fun ut rY => ?_⟩
    replace kl := HS.back dt.log0 rfl kl
    replace kl := HS.lg kl dt rY
    generalize ({ uM with log := ut } : Heap) = xt at kl ⊢
    have kl : HS _ _ _ [_, _, _, _, _, _, _, _, _, _, _, _, tt] _ := kl
    replace nW := nW.mono nN
    replace lC := (lC.mono ne).mono nN
    replace lD := (lD.mono ne).mono nN
    refine bM (id := .x (ts.map Prod.fst)) (bw (α := Int) (q := 11) nW kl.log0 rfl rfl rfl (OS.sv sn kl.log0 (i := 12) rfl) rfl rfl rfl rfl rfl rfl rfl (by omega)) rfl rfl (by rintro _ _ ry ⟨th, tn, rfl, my, _, hwr⟩; exact bQ rfl rfl (Wr.did hwr)) (kb rfl) ?_
    rintro _ uN ry ⟨th, tn, rfl, my, lT, _⟩ uu rZ
    replace lT := HS.lg lT kl rZ
    generalize ({ uN with log := uu } : Heap) = xu at lT ⊢
    have lT : HS _ _ _ [_, _, _, _, _, _, _, _, _, _, _, ry, _] _ := lT
    refine aF (v := (iI (((az ((c.blocks.getD k default).ins.getD i default)) ++ (da ((E.getD k default).getD (i + 1) default) [((c.blocks.getD k default).ins.getD i default).i.a])).length : Int))) (id := .v) (jd (α := Int) rfl rfl (OS.sv my lT.log0 (i := 11) rfl)) rfl rfl (i4 rfl) (j6 _) (fm (iI 0) rfl rfl rfl (bT (ah 2 rfl (aj (fun (mm : Nat) f H' => ∃ (lz : List PntT) (kk : List Bool) (q : Nat) (f4 : Option Addr) (f6 : Nat) (lb : Fp) (f5 : Option Addr) (f7 : Nat) (lE : Fp) (F' : Fz), Fz.le uG F' ∧ HS (Base.of H []) F' H' [c3, c4, p8, p9, rF, ds, [], lb, lE, tB, [(m7, .cells [(iI ((c.blocks.getD k default).ins.getD i default).i.op), (iI ((c.blocks.getD k default).ins.getD i default).i.a), (iI ((c.blocks.getD k default).ins.getD i default).i.b), (iI ((c.blocks.getD k default).ins.getD i default).i.c), (iI ((c.blocks.getD k default).ins.getD i default).i.n), (.slice (cA (mu i) 5) ((c.blocks.getD k default).ins.getD i default).args.length (cK (mu i) 5))] none false)], ry, tt] R ∧ OS F' (.slice f4 lz.length f6) lz lb ∧ OS F' (.slice f5 kk.length f7) kk lE ∧ aD f [(0, (.pointer (some ⟨A, 0, none⟩))), (2, (.slice f4 lz.length f6)), (3, (.slice f5 kk.length f7)), (4, (iI (k : Int))), (6, (iI (i : Int))), (28, (.slice U c.blocks.length V)), (29, (iI (c.blocks.length : Int))), (30, (iI (k : Int))), (36, (.slice (cA (g4 k) 0) (c.blocks.getD k default).ins.length (cK (g4 k) 0))), (37, (iI ((c.blocks.getD k default).ins.length : Int))), (38, (iI (i : Int))), (64, (.slice th ((az ((c.blocks.getD k default).ins.getD i default)) ++ (da ((E.getD k default).getD (i + 1) default) [((c.blocks.getD k default).ins.getD i default).i.a])).length tn)), (65, (iI (((az ((c.blocks.getD k default).ins.getD i default)) ++ (da ((E.getD k default).getD (i + 1) default) [((c.blocks.getD k default).ins.getD i default).i.a])).length : Int))), (66, (iI (q : Int)))] ∧ mm = (az ((c.blocks.getD k default).ins.getD i default) ++ da ((E.getD k default).getD (i + 1) default) [((c.blocks.getD k default).ins.getD i default).i.a]).length - q ∧ (lz.length = c.regs.toNat) ∧ (kk.length = c.regs.toNat) ∧ (q ≤ (az ((c.blocks.getD k default).ins.getD i default) ++ da ((E.getD k default).getD (i + 1) default) [((c.blocks.getD k default).ins.getD i default).i.a]).length)) _ ⟨mH, mG, 0, kZ, k5, ko, k0, k6, kr, _, fR, lT, lC, lD, ⟨rfl, rfl, rfl, rfl, rfl, rfl, rfl, rfl, rfl, rfl, rfl, rfl, rfl, rfl, trivial⟩, rfl, (by omega), (by omega), (by omega)⟩ ?_))))
    rintro yx yV yO ⟨lz, kk, q, f4, f6, lb, f5, f7, lE, uH, nO, lA, me, k4, qI, rfl, yu, yp, hq⟩ rg
    refine ap _ qI (fun _ => ?_)
    clear qI
    replace my := my.mono nO
    refine ah 1 rfl (wT 2 [] 67 67 [] [(67, (.bool (decide ((q : Int) < (((az ((c.blocks.getD k default).ins.getD i default)) ++ (da ((E.getD k default).getD (i + 1) default) [((c.blocks.getD k default).ins.getD i default).i.a])).length : Int)))))] rfl fun _ => am 4 5 (v := (decide ((q : Int) < (((az ((c.blocks.getD k default).ins.getD i default)) ++ (da ((E.getD k default).getD (i + 1) default) [((c.blocks.getD k default).ins.getD i default).i.a])).length : Int)))) rfl rfl rfl rfl (fun oR => ?_) (fun oR => ?_))
    ·
     have qy := oR
     try simp only [BS] at qy
     have hxq := d3 hxr (k := q) (by omega)
     obtain ⟨xF, q9⟩ := Sv.view (OS.sv my lA (i := 11) rfl)
     have yX := fI (q9 q)
     refine wR 2 [(1, .o (iI (((az ((c.blocks.getD k default).ins.getD i default)) ++ (da ((E.getD k default).getD (i + 1) default) [((c.blocks.getD k default).ins.getD i default).i.a])).getD q 0)))] 68 69 [9] [(9, (iI (((az ((c.blocks.getD k default).ins.getD i default)) ++ (da ((E.getD k default).getD (i + 1) default) [((c.blocks.getD k default).ins.getD i default).i.a])).getD q 0)))] (vA (Sv.ix (j := (q : Int)) (OS.sv my lA (i := 11) rfl) (by omega) (by omega)) (vA (ql 3 0 (vI (q9 q) (by omega)) rfl rfl) trivial)) rfl fun _ => ?_
     obtain ⟨xG, uk⟩ := Sv.view (OS.sv k4 lA (i := 8) rfl)
     refine wR 1 [(3, .o (.bool (kk.getD ((((az ((c.blocks.getD k default).ins.getD i default)) ++ (da ((E.getD k default).getD (i + 1) default) [((c.blocks.getD k default).ins.getD i default).i.a])).getD q 0).toNat) false)))] 70 74 [] [(74, (.bool (!(kk.getD ((((az ((c.blocks.getD k default).ins.getD i default)) ++ (da ((E.getD k default).getD (i + 1) default) [((c.blocks.getD k default).ins.getD i default).i.a])).getD q 0).toNat) false))))] (vA (Sv.ix (j := (((az ((c.blocks.getD k default).ins.getD i default)) ++ (da ((E.getD k default).getD (i + 1) default) [((c.blocks.getD k default).ins.getD i default).i.a])).getD q 0)) (OS.sv k4 lA (i := 8) rfl) (by omega) (by omega)) (vA (ql 4 0 (vB (uk ((((az ((c.blocks.getD k default).ins.getD i default)) ++ (da ((E.getD k default).getD (i + 1) default) [((c.blocks.getD k default).ins.getD i default).i.a])).getD q 0).toNat)) (by omega)) rfl rfl) trivial)) rfl fun _ => am 1 2 (v := (!(kk.getD ((((az ((c.blocks.getD k default).ins.getD i default)) ++ (da ((E.getD k default).getD (i + 1) default) [((c.blocks.getD k default).ins.getD i default).i.a])).getD q 0).toNat) false))) rfl rfl rfl rfl (fun oT => ?_) (fun oT => ?_)
     ·
      have qz := oT
      try simp only [BS] at qz
      refine aa (wUo 3 0 [] 75 77 [] [(77, (.pointer (some ⟨sB (.slice f5 kk.length f7), sO (.slice f5 kk.length f7) + ((((az ((c.blocks.getD k default).ins.getD i default)) ++ (da ((E.getD k default).getD (i + 1) default) [((c.blocks.getD k default).ins.getD i default).i.a])).getD q 0).toNat) * Rp.sz Bool, none⟩)))] (Sv.ix (j := (((az ((c.blocks.getD k default).ins.getD i default)) ++ (da ((E.getD k default).getD (i + 1) default) [((c.blocks.getD k default).ins.getD i default).i.a])).getD q 0)) (OS.sv k4 lA (i := 8) rfl) (by omega) (by omega)) rfl fun _ => aN (db (α := Bool) (j := (((az ((c.blocks.getD k default).ins.getD i default)) ++ (da ((E.getD k default).getD (i + 1) default) [((c.blocks.getD k default).ins.getD i default).i.a])).getD q 0).toNat) (off := 0) (q := 8) true k4 lA rfl rfl rfl rfl rfl rfl rfl rfl (aM (x := false) (by omega)) rfl (by rintro cs rfl; exact ⟨a07 rfl, rfl⟩)) rfl ?_)
      rintro _ yP tu ⟨oW, (q4 : HS _ _ _ [_, _, _, _, _, _, _, lb, tu, _, _, _, _] _), _⟩
      have wd := OS.len' oW
      refine ae 1 rfl (aa (wUo 6 0 [] 78 83 [] [(82, (.agg ⟨[(iI (k : Int)), (iI (i : Int))]⟩)), (83, (.pointer (some ⟨sB (.slice f4 lz.length f6), sO (.slice f4 lz.length f6) + ((((az ((c.blocks.getD k default).ins.getD i default)) ++ (da ((E.getD k default).getD (i + 1) default) [((c.blocks.getD k default).ins.getD i default).i.a])).getD q 0).toNat) * Rp.sz PntT, none⟩)))] (Sv.ix (j := (((az ((c.blocks.getD k default).ins.getD i default)) ++ (da ((E.getD k default).getD (i + 1) default) [((c.blocks.getD k default).ins.getD i default).i.a])).getD q 0)) (OS.sv me q4 (i := 7) rfl) (by omega) (by omega)) rfl fun _ => aN (db (α := PntT) (j := (((az ((c.blocks.getD k default).ins.getD i default)) ++ (da ((E.getD k default).getD (i + 1) default) [((c.blocks.getD k default).ins.getD i default).i.a])).getD q 0).toNat) (off := 0) (q := 7) (⟨(k : Int), (i : Int)⟩ : PntT) me q4 rfl rfl rfl rfl rfl rfl rfl rfl (aM (x := default) (by omega)) rfl (j1 (F := uH) (Y := (⟨(k : Int), (i : Int)⟩ : PntT)) (cl := [(iI (k : Int)), (iI (i : Int))]) ⟨rfl, by (dsimp only; omega), by (dsimp only; omega)⟩)) rfl ?_))
      rintro _ yQ tw ⟨oX, (ui : HS _ _ _ [_, _, _, _, _, _, _, tw, _, _, _, _, _] _), _⟩
      have we := OS.len' oX
      refine ae 2 rfl (wU 1 [] 66 66 [84] [(66, (iI ((q : Int) + 1)))] (vi (n := (q : Int) + 1) (by omega)) rfl fun _ => rg _ _ _ ?_ ⟨lz.set ((((az ((c.blocks.getD k default).ins.getD i default)) ++ (da ((E.getD k default).getD (i + 1) default) [((c.blocks.getD k default).ins.getD i default).i.a])).getD q 0).toNat) (⟨(k : Int), (i : Int)⟩ : PntT), kk.set ((((az ((c.blocks.getD k default).ins.getD i default)) ++ (da ((E.getD k default).getD (i + 1) default) [((c.blocks.getD k default).ins.getD i default).i.a])).getD q 0).toNat) true, q + 1, f4, f6, tw, f5, f7, tu, _, (nO), ui, (OS.norm oX), (OS.norm oW), (agC rfl (agC (show Value.slice f4 lz.length f6 = Value.slice f4 (lz.set ((((az ((c.blocks.getD k default).ins.getD i default)) ++ (da ((E.getD k default).getD (i + 1) default) [((c.blocks.getD k default).ins.getD i default).i.a])).getD q 0).toNat) (⟨(k : Int), (i : Int)⟩ : PntT)).length f6 by rw [OS.len' oX]) (agC (show Value.slice f5 kk.length f7 = Value.slice f5 (kk.set ((((az ((c.blocks.getD k default).ins.getD i default)) ++ (da ((E.getD k default).getD (i + 1) default) [((c.blocks.getD k default).ins.getD i default).i.a])).getD q 0).toNat) true).length f7 by rw [OS.len' oW]) ⟨rfl, rfl, rfl, rfl, rfl, rfl, rfl, rfl, rfl, rfl, rfl, trivial⟩))), rfl, (by (simp only [a0h]; assumption)), (by (simp only [a0h]; assumption)), (by omega)⟩)
      omega
     have qz := oT
     try simp only [BS] at qz
     refine wU 1 [] 66 66 [84] [(66, (iI ((q : Int) + 1)))] (vi (n := (q : Int) + 1) (by omega)) rfl fun _ => rg _ _ _ ?_ ⟨lz, kk, q + 1, f4, f6, lb, f5, f7, lE, _, (nO), lA, me, k4, ⟨rfl, rfl, rfl, rfl, rfl, rfl, rfl, rfl, rfl, rfl, rfl, rfl, rfl, rfl, trivial⟩, rfl, (by assumption), (by assumption), (by omega)⟩
     omega
    have qy := oR
    try simp only [BS] at qy
    refine wU 1 [] 38 38 [85] [(38, (iI ((i : Int) + 1)))] (vi (n := (i : Int) + 1) (by omega)) rfl fun _ => rf _ _ _ ?_ ⟨lz, kk, i + 1, f4, f6, lb, f5, f7, lE, _, (fT (fT (fT (mx) ne) nN) nO), (HS.sub lA (a03 _ _)), me, k4, ⟨rfl, rfl, rfl, rfl, rfl, rfl, rfl, rfl, rfl, rfl, trivial⟩, rfl, (by omega), (by omega), (by omega)⟩
    omega
   have qw := oP
   try simp only [BS] at qw
   refine wU 1 [] 30 30 [86] [(30, (iI ((k : Int) + 1)))] (vi (n := (k : Int) + 1) (by omega)) rfl fun _ => ul _ _ _ ?_ ⟨mH, mG, k + 1, kZ, k5, ko, k0, k6, kr, _, (fT (mw) mx), (HS.sub oa (a03 _ _)), lC, lD, ⟨rfl, rfl, rfl, rfl, rfl, rfl, trivial⟩, rfl, (by omega), (by omega), (by omega)⟩
   omega
  have qv := oO
  try simp only [BS] at qv
  refine aa (wUo 4 0 [(3, .o lQ)] 87 90 [] [(90, lQ)] (qn 24 0 3 (HS.hc mz (i := 4) rfl) rfl rfl rfl rfl) rfl fun _ => aA (aq rfl rfl rfl) rfl rfl (mg.across_c ex c (HS.call mz) (by omega) (by omega) c5 hT (by exact fun j => a0c (hins j) (by omega))) ?_)
  rintro _ yR ⟨t1, un, av, nm, uI, oV, oZ, rfl, mT, x7, x6⟩
  replace oZ : HS _ _ _ [_, _, _, _, _, _, _, dv, d1, nm] _ := HS.back mz rfl oZ
  replace nj := nj.mono oV
  refine wTo 2 5 [] 92 93 [] [(92, (iI (av.length : Int))), (93, (iI 0))] rfl fun _ => ae 2 rfl (aj (fun (mm : Nat) f H' => ∃ (sp : List Bool) (sl : List SpiT) (q : Nat) (co : Fp) (b4 : Option Addr) (b5 : Nat) (c0 : Fp) (g1 : Option Addr) (g2 : Nat) (F' : Fz), Fz.le uI F' ∧ HS (Base.of H []) F' H' [c3, c4, p8, co, [(A, .cells [(iI c.params), (iI c.regs), (.slice U c.blocks.length V), (.slice an E.length ar), (.slice b4 sp.length b5), (.slice f2 (List.replicate c.regs.toNat (default : LocT)).length f3), (.slice g1 sl.length g2), (iI 0)] none false)], ds, c0, dv, d1, nm] R ∧ OS F' (.slice b4 sp.length b5) sp co ∧ OS F' (.slice g1 sl.length g2) sl c0 ∧ aD f [(0, (.pointer (some ⟨A, 0, none⟩))), (2, (.slice bb a2.length be)), (91, (.slice t1 av.length un)), (92, (iI (av.length : Int))), (93, (iI (q : Int)))] ∧ mm = av.length - q ∧ (sp.length = c.regs.toNat) ∧ (sl.length ≤ q) ∧ (q ≤ av.length)) _ ⟨List.replicate c.regs.toNat false, ([] : List SpiT), 0, p9, a9, k9, [], none, 0, _, fR, oZ, nj, (OS.nil : OS _ (.slice none 0 0) ([] : List SpiT) []), ⟨rfl, rfl, rfl, rfl, rfl, trivial⟩, rfl, (by simp), (by simp), (by omega)⟩ ?_)
  rintro yy yW pj ⟨sp, sl, q, co, b4, b5, c0, g1, g2, qm, nP, lp, lH, mJ, qJ, rfl, lsp, lsl, hq⟩ um
  refine ap _ qJ (fun _ => ?_)
  clear qJ
  replace mT := mT.mono nP
  replace kn := (kn.mono oV).mono nP
  refine ah 1 rfl ?_
  have hac := (by assumption : d6 c = true → Lst av (acS c)) hv
  have har := lst_rng hac (fun r h => ack_lt vF (a09 _) h)
  have hal := Lst.len hac hrg.1 (fun r h => ack_lt vF (a09 _) h)
  refine wT 2 [] 94 94 [] [(94, (.bool (decide ((q : Int) < (av.length : Int)))))] rfl fun _ => am 4 3 (v := (decide ((q : Int) < (av.length : Int)))) rfl rfl rfl rfl (fun oU => ?_) (fun oU => ?_)
  ·
   have qA := oU
   try simp only [BS] at qA
   have hxq := d3 har (k := q) (by omega)
   obtain ⟨xH, rc⟩ := Sv.view (OS.sv mT lp (i := 9) rfl)
   have yY := fI (rc q)
   refine wR 1 [(1, .o (iI (av.getD q 0)))] 95 96 [11] [(11, (iI (av.getD q 0)))] (vA (Sv.ix (j := (q : Int)) (OS.sv mT lp (i := 9) rfl) (by omega) (by omega)) (vA (ql 3 0 (vI (rc q) (by omega)) rfl rfl) trivial)) rfl fun _ => aS rfl (fm (.pointer (some ⟨A, 0, none⟩)) rfl rfl rfl (fm (iI (av.getD q 0)) rfl rfl rfl (fm (.slice bb a2.length be) rfl rfl rfl (fm (iI (av.getD q 0)) rfl rfl rfl ?_))))
   refine wfv (v := (.pointer (some ⟨sB (.slice bb a2.length be), sO (.slice bb a2.length be) + (av.getD q 0).toNat * Rp.sz PntT, none⟩))) (bh (α := PntT) (j := (av.getD q 0)) rfl rfl rfl rfl (OS.sv kn lp.log0 (i := 7) rfl) (by omega) (by omega)) (wfv (v := (.pointer (some ⟨sB (.slice bb a2.length be), sO (.slice bb a2.length be) + (av.getD q 0).toNat * Rp.sz PntT, none⟩))) (bn rfl rfl) ?_)
   obtain ⟨xK, uc, t5⟩ := Sv.at (OS.sv kn lp.log0 (i := 7) rfl) (aM (x := default) (show (av.getD q 0).toNat < a2.length from by omega))
   obtain ⟨rfl, v3, v4⟩ := uc
   refine aF (v := (iI (a2.getD (av.getD q 0).toNat default).blk)) (id := .l (sB (.slice bb a2.length be))) (aU (i := 0) rfl rfl t5 rfl rfl) rfl rfl (bx rfl) (kb rfl) (fm (.slice bb a2.length be) rfl rfl rfl (fm (iI (av.getD q 0)) rfl rfl rfl (wfv (v := (.pointer (some ⟨sB (.slice bb a2.length be), sO (.slice bb a2.length be) + (av.getD q 0).toNat * Rp.sz PntT, none⟩))) (bh (α := PntT) (j := (av.getD q 0)) rfl rfl rfl rfl (OS.sv kn lp.log0 (i := 7) rfl) (by omega) (by omega)) (wfv (v := (.pointer (some ⟨sB (.slice bb a2.length be), sO (.slice bb a2.length be) + (av.getD q 0).toNat * Rp.sz PntT + 1, none⟩))) (bn rfl rfl) ?_))))
   obtain ⟨xL, ud, t6⟩ := Sv.at (OS.sv kn lp.log0 (i := 7) rfl) (aM (x := default) (show (av.getD q 0).toNat < a2.length from by omega))
   obtain ⟨rfl, v5, v6⟩ := ud
   let pe : Value := (.agg ⟨[(iI (av.getD q 0)), (iI 1), (iI (a2.getD (av.getD q 0).toNat default).blk), (iI (a2.getD (av.getD q 0).toNat default).idx), (.slice none 0 0)]⟩)
   refine aF (v := (iI (a2.getD (av.getD q 0).toNat default).idx)) (id := .l (sB (.slice bb a2.length be))) (aU (i := 1) rfl rfl t6 rfl rfl) rfl rfl (bx rfl) (kb rfl) (wfv (v := pe) (ap_bld rfl rfl (by kernel_rfl)) ?_)
   let ou : Fp := [(A, .cells [(iI c.params), (iI c.regs), (.slice U c.blocks.length V), (.slice an E.length ar), (.slice b4 sp.length b5), (.slice f2 (List.replicate c.regs.toNat (default : LocT)).length f3), (.slice g1 sl.length g2), (iI 0)] none false)]
   have pu : HS (Base.of H []) qm { pj with log := [] } ([c3, c4, p8, co, ou, ds, c0, dv, d1, nm] ++ []) R := by rw [a0z]; exact lp.log0
   obtain ⟨qd, re, hQ⟩ : ∃ W, W = [c3, c4, p8, co, ou, ds, c0, dv, d1, nm].flatten.map Prod.fst ∧ HS (.of { pj with log := [] } W) qm { pj with log := [] } [c3, c4, p8, co, ou, ds, c0, dv, d1, nm] ([] ++ R) := ⟨_, rfl, HS.callN pu⟩
   refine wf_callG (W := qd) (R := fun v H' => ∃ (s1 : List Bool) (s2 : List SpiT) (jw : Fp) (ik : Option Addr) (ja : Nat) (kc : Fp) (il : Option Addr) (jb : Nat) (F' : Fz), Fz.le qm F' ∧ HS (Base.of { pj with log := [] } qd) F' H' [c3, c4, p8, jw, [(A, .cells [(iI c.params), (iI c.regs), (.slice U c.blocks.length V), (.slice an E.length ar), (.slice ik s1.length ja), (.slice f2 (List.replicate c.regs.toNat (default : LocT)).length f3), (.slice il s2.length jb), (iI 0)] none false)], ds, kc, dv, d1, nm] ([] ++ R) ∧ OS F' (.slice ik s1.length ja) s1 jw ∧ OS F' (.slice il s2.length jb) s2 kc ∧ v = .tuple #[] ∧ (s1 = (sp).set ((av.getD q 0)).toNat true) ∧ (s2.length = (sl).length + 1)) (aq rfl rfl rfl) rfl rfl rfl ?_ (kb rfl) ?_
   ·
    refine aH Tryd.func102 rfl rfl (ah 1 rfl (aa (aG (bG hQ rfl rfl) rfl rfl ?_)))
    rintro _ wN _ ⟨nn, rfl, (l3 : HS _ _ _ [_, _, _, co, ou, _, c0, _, _, _, [(nn, .cells [(iI (av.getD q 0)), (iI 1), (iI (a2.getD (av.getD q 0).toNat default).blk), (iI (a2.getD (av.getD q 0).toNat default).idx), (.slice none 0 0)] none false)]] _), _⟩
    refine ae 2 rfl (aS rfl (fm (.pointer (some ⟨A, 0, none⟩)) rfl rfl rfl (wfv (v := (.pointer (some ⟨A, 0, none⟩))) (cG rfl) (wfv (v := (.pointer (some ⟨A, 4, none⟩))) (bn rfl rfl) (aF (v := (.slice b4 sp.length b5)) (id := .l A) (aU (i := 4) rfl rfl (HS.hc l3.log0 (i := 4) rfl) rfl rfl) rfl rfl (bx rfl) (kb rfl) ?_)))))
    refine wfv (v := (.pointer (some ⟨nn, 0, none⟩))) (bn rfl rfl) (aF (v := (iI (av.getD q 0))) (id := .l nn) (aU (i := 0) rfl rfl (HS.hc l3.log0 (i := 10) rfl) rfl rfl) rfl rfl (bx rfl) (kb rfl) (wfv (v := (.pointer (some ⟨sB (.slice b4 sp.length b5), sO (.slice b4 sp.length b5) + (av.getD q 0).toNat * Rp.sz Bool, none⟩))) (bh (α := Bool) (j := (av.getD q 0)) rfl rfl rfl rfl (OS.sv lH l3.log0 (i := 3) rfl) (by omega) (by omega)) (eN (id := .x (co.map Prod.fst)) (db (α := Bool) (j := (av.getD q 0).toNat) (off := 0) (q := 3) true lH l3.log0 rfl rfl rfl rfl rfl rfl rfl rfl (aM (x := false) (by omega)) rfl (by rintro cs rfl; exact ⟨a07 rfl, rfl⟩)) rfl (by rintro _ _ o5 ⟨nQ, _, hwr⟩; exact bQ rfl rfl (Wr.did hwr)) (kb rfl) ?_)))
    rintro _ tO o5 ⟨nQ, h5, _⟩ sX qL
    replace h5 := HS.lg h5 l3 qL
    generalize ({ tO with log := sX } : Heap) = vf at h5 ⊢
    have h5 : HS _ _ _ [_, _, _, o5, _, _, _, _, _, _, _] _ := h5
    have u1 := OS.len' nQ
    refine bT (ah 1 rfl (aS rfl (fm (.pointer (some ⟨A, 0, none⟩)) rfl rfl rfl (fm (.pointer (some ⟨A, 0, none⟩)) rfl rfl rfl (wfv (v := (.pointer (some ⟨A, 0, none⟩))) (cG rfl) ?_)))))
    refine wfv (v := (.pointer (some ⟨A, 5, none⟩))) (bn rfl rfl) (wfv (v := (.pointer (some ⟨A, 6, none⟩))) (bn rfl rfl) (aF (v := (.slice g1 sl.length g2)) (id := .l A) (aU (i := 6) rfl rfl (HS.hc h5.log0 (i := 4) rfl) rfl rfl) rfl rfl (bx rfl) (kb rfl) (aF (v := pe) (id := .l nn) (eL (i := 0) rfl rfl rfl (HS.hc h5.log0 (i := 10) rfl) rfl rfl rfl) rfl rfl (bx rfl) (kb rfl) (bM (id := .a) (bt (α := SpiT) (ps := [(0, pe)]) (cells := [(iI (av.getD q 0)), (iI 1), (iI (a2.getD (av.getD q 0).toNat default).blk), (iI (a2.getD (av.getD q 0).toNat default).idx), (.slice none 0 0)]) ([(⟨(av.getD q 0), 1, (a2.getD (av.getD q 0).toNat default).blk, (a2.getD (av.getD q 0).toNat default).idx, ([] : List Int)⟩ : SpiT)] : List SpiT) h5.log0 rfl rfl rfl (by kernel_rfl) ⟨[(iI (av.getD q 0)), (iI 1), (iI (a2.getD (av.getD q 0).toNat default).blk), (iI (a2.getD (av.getD q 0).toNat default).idx), (.slice none 0 0)], [], rfl, ⟨none, 0, rfl, by (dsimp only; omega), by (dsimp only; omega), by (dsimp only; omega), by (dsimp only; omega), SR.nil⟩, rfl⟩ rfl) rfl rfl (fun _ _ _ _ => gZ rfl rfl rfl) (kb rfl) ?_))))
    rintro _ tP uv ⟨xw, ye, rfl, r0, kQ, _⟩ sY qM
    replace kQ := HS.lg kQ h5 qM
    generalize ({ tP with log := sY } : Heap) = vg at kQ ⊢
    have kQ : HS _ _ _ [_, _, _, _, _, _, _, _, _, _, _, uv] _ := kQ
    refine bM (id := .x (c0.map Prod.fst)) (bw (α := SpiT) (q := 6) mJ kQ.log0 rfl rfl rfl (OS.sv r0 kQ.log0 (i := 11) rfl) rfl rfl rfl rfl rfl rfl rfl (by (simp only [a05, a0a, a0e, a0g, a0o]; omega))) rfl rfl (by rintro _ _ o6 ⟨ov, o0, rfl, pJ, _, hwr⟩; exact bQ rfl rfl (Wr.did hwr)) (kb rfl) ?_
    rintro _ tQ o6 ⟨ov, o0, rfl, pJ, lh, _⟩ sZ qN
    replace lh := HS.lg lh kQ qN
    generalize ({ tQ with log := sZ } : Heap) = vh at lh ⊢
    have lh : HS _ _ _ [_, _, _, _, _, _, o6, _, _, _, _, _] _ := lh
    refine wfv (v := (.pointer (some ⟨A, 0, none⟩))) (cG rfl) (wfv (v := (.pointer (some ⟨A, 5, none⟩))) (bn rfl rfl) (wfv (v := (.pointer (some ⟨A, 6, none⟩))) (bn rfl rfl) (eN (id := .x [A]) (aI (q := 4) lh.log0 rfl rfl rfl rfl rfl rfl rfl rfl rfl) rfl (by rintro _ _ _ ⟨_, hwr⟩; exact bQ rfl rfl (Wr.did hwr)) (kb rfl) ?_)))
    rintro _ tR _ ⟨lM, _⟩ s0 qO
    replace lM := HS.lg lM lh qO
    generalize ({ tR with log := s0 } : Heap) = vj at lM ⊢
    have lM : HS _ _ _ [_, _, _, _, [(A, .cells [(iI c.params), (iI c.regs), (.slice U c.blocks.length V), (.slice an E.length ar), (.slice b4 sp.length b5), (.slice f2 (List.replicate c.regs.toNat (default : LocT)).length f3), (.slice ov (sl ++ ([(⟨(av.getD q 0), 1, (a2.getD (av.getD q 0).toNat default).blk, (a2.getD (av.getD q 0).toNat default).idx, ([] : List Int)⟩ : SpiT)] : List SpiT)).length o0), (iI 0)] none false)], _, _, _, _, _, _, _] _ := lM
    refine bT (aT ⟨.inl rfl, _, rfl, sp.set (av.getD q 0).toNat true, sl ++ ([(⟨(av.getD q 0), 1, (a2.getD (av.getD q 0).toNat default).blk, (a2.getD (av.getD q 0).toNat default).idx, ([] : List Int)⟩ : SpiT)] : List SpiT), o5, b4, b5, o6, ov, o0, _, fR, (by simpa only [a0h] using (HS.sub lM (a03 _ _))), (OS.norm nQ), pJ, rfl, (by rfl), (by simp)⟩)
   rintro _ tN ⟨s1, s2, jw, ik, ja, kc, il, jb, wC, rJ, hQ, oe, og, rfl, mI, ti⟩
   refine ⟨HS.didW hQ, fun sW qK => ?_⟩
   replace hQ := HS.backN pu rfl (fun b hb => re ▸ hb) hQ
   rw [a0z] at hQ
   replace hQ := HS.lg hQ lp qK
   generalize ({ tN with log := sW } : Heap) = vd at hQ ⊢
   refine bT (ah 2 rfl (wU 1 [] 93 93 [111] [(93, (iI ((q : Int) + 1)))] (vi (n := (q : Int) + 1) (by omega)) rfl fun _ => um _ _ _ ?_ ⟨s1, s2, q + 1, jw, ik, ja, kc, il, jb, _, (fT (nP) rJ), hQ, oe, og, ⟨rfl, rfl, rfl, rfl, rfl, trivial⟩, rfl, (by rw [mI, a0h]; exact lsp), (by omega), (by omega)⟩))
   omega
  have qA := oU
  try simp only [BS] at qA
  refine aT ⟨.inl rfl, _, rfl, sp, sl, co, b4, b5, c0, g1, g2, _, (fT (fT (mw) oV) nP), (HS.sub lp (a03 _ _)), lH, mJ, rfl, (by exact spf_0 lsp lsl (by omega))⟩
 rintro _ yF ⟨spA, slA, hY, hS, hW, h0, hV, hX, uE, m9, oY, lF, lG, rfl, hsp⟩
 replace hT := hT.mono m9
 replace c5 := c5.mono m9
 replace lR := lR.mono m9
 replace b7 := b7.mono m9
 refine ae 2 rfl (aa (wm (.pointer (some ⟨A, 0, none⟩)) rfl rfl rfl (aA (R := fun v H' => ∃ (spB : List Bool) (slB : List SpiT) (hw : Fp) (ha : Option Addr) (hl : Nat) (hA : Fp) (he : Option Addr) (hn : Nat) (F' : Fz), Fz.le uE F' ∧ HS (Base.of H []) F' H' [c3, c4, p8, hw, [(A, .cells [(iI c.params), (iI c.regs), (.slice U c.blocks.length V), (.slice an E.length ar), (.slice ha spB.length hl), (.slice f2 (List.replicate c.regs.toNat (default : LocT)).length f3), (.slice he slB.length hn), (iI 0)] none false)], ds, hA] R ∧ OS F' (.slice ha spB.length hl) spB hw ∧ OS F' (.slice he slB.length hn) slB hA ∧ v = .tuple #[] ∧ (SpF c spB slB)) (aq rfl rfl rfl) rfl rfl ?_ ?_)))
 ·
  refine aH Tryd.func61 rfl rfl (ah 1 rfl (aa (wUo 4 0 [(3, .o lQ)] 10 13 [] [(13, lQ)] (qn 24 0 3 (HS.hc oY (i := 4) rfl) rfl rfl rfl rfl) rfl fun _ => aA (aq rfl rfl rfl) rfl rfl (nc.uses_c ex c (HS.call oY) (by omega) (by omega) c5 hT (by assumption)) ?_)))
  rintro _ wQ ⟨lV, l7, h4, tD, lK, mU, rfl, g5, v9, v7⟩
  replace mU : HS _ _ _ [c3, c4, p8, hY, [(A, .cells [(iI c.params), (iI c.regs), (.slice U c.blocks.length V), (.slice an E.length ar), (.slice hS spA.length hW), (.slice f2 (List.replicate c.regs.toNat (default : LocT)).length f3), (.slice hV slA.length hX), (iI 0)] none false)], ds, h0] _ := HS.back oY rfl mU
  replace lF := lF.mono lK
  replace lG := lG.mono lK
  refine wa (.slice lV h4.length l7) rfl rfl rfl (ae 2 rfl ?_)
  have hcf := ((by assumption : d6 c = true → CntF c (usedC c) h4) hv).len
  refine wU 2 [(4, .o (.slice U c.blocks.length V))] 15 21 [] [(19, (.slice U c.blocks.length V)), (20, (iI (c.blocks.length : Int))), (21, (iI 0))] (ql 22 2 (HS.hc mU (i := 4) rfl) rfl rfl) rfl fun _ => aj (fun (mm : Nat) f H' => ∃ (sp : List Bool) (sl : List SpiT) (k : Nat) (e9 : Fp) (ea : Option Addr) (e1 : Nat) (fd : Fp) (em : Option Addr) (e2 : Nat) (F' : Fz), Fz.le tD F' ∧ HS (Base.of H []) F' H' [c3, c4, p8, e9, [(A, .cells [(iI c.params), (iI c.regs), (.slice U c.blocks.length V), (.slice an E.length ar), (.slice ea sp.length e1), (.slice f2 (List.replicate c.regs.toNat (default : LocT)).length f3), (.slice em sl.length e2), (iI 0)] none false)], ds, fd] R ∧ OS F' (.slice ea sp.length e1) sp e9 ∧ OS F' (.slice em sl.length e2) sl fd ∧ aD f [(0, (.pointer (some ⟨A, 0, none⟩))), (2, (.slice lV h4.length l7)), (19, (.slice U c.blocks.length V)), (20, (iI (c.blocks.length : Int))), (21, (iI (k : Int)))] ∧ mm = c.blocks.length - k ∧ (SpF c sp sl) ∧ (k ≤ c.blocks.length)) _ ⟨spA, slA, 0, hY, hS, hW, h0, hV, hX, _, fR, mU, lF, lG, ⟨rfl, rfl, rfl, rfl, rfl, trivial⟩, rfl, (by assumption), (by omega)⟩ ?_
  rintro wq xM wS ⟨sp, sl, k, e9, ea, e1, fd, em, e2, tE, lL, mV, mn, mp, pw, rfl, uX, hk⟩ sQ
  refine ap _ pw (fun _ => ?_)
  clear pw
  replace hT := (hT.mono lK).mono lL
  replace c5 := (c5.mono lK).mono lL
  replace g5 := g5.mono lL
  replace b7 := (b7.mono lK).mono lL
  refine ah 1 rfl (wT 2 [] 22 22 [] [(22, (.bool (decide ((k : Int) < (c.blocks.length : Int)))))] rfl fun _ => am 4 3 (v := (decide ((k : Int) < (c.blocks.length : Int)))) rfl rfl rfl rfl (fun nr => ?_) (fun nr => ?_))
  ·
   have oy := nr
   try simp only [BS] at oy
   have hbn : k < c.blocks.length := by omega
   have hbl := hins k
   have px := ps.at_ k hbn
   have hpl : (E.getD k default).length = (c.blocks.getD k default).ins.length + 2 := px.len
   refine aa ?_
   obtain ⟨ky, pW⟩ := Sv.view (SR.sv c5 mV)
   obtain ⟨uO, uP, uQ, uR, vc⟩ := BlkT.fx (pW k)
   let rB : Value := (.agg ⟨[(.slice (cA (ky k) 0) (c.blocks.getD k default).ins.length (cK (ky k) 0)), (iI (c.blocks.getD k default).fin), (iI (c.blocks.getD k default).reg), (iI (c.blocks.getD k default).tgt), (iI (c.blocks.getD k default).els)]⟩)
   refine wRo 3 0 [(2, .o rB)] 23 25 [] [(23, (iI (k : Int))), (25, rB)] (vA (Sv.ix (j := (k : Int)) (SR.sv c5 mV) (by omega) (by omega)) (vA (qn 48 0 5 (BlkT.vw (pW k) (by omega)) rfl rfl rfl rfl) trivial)) rfl fun _ => aG (bp mV rfl) rfl rfl ?_
   rintro _ wV _ ⟨ms, rfl, (sq : HS _ _ _ [_, _, _, e9, [(A, .cells [(iI c.params), (iI c.regs), (.slice U c.blocks.length V), (.slice an E.length ar), (.slice ea sp.length e1), (.slice f2 (List.replicate c.regs.toNat (default : LocT)).length f3), (.slice em sl.length e2), (iI 0)] none false)], _, fd, [(ms, .cells [(.slice none 0 0), (iI 0), (iI 0), (iI 0), (iI 0)] none false)]] _), _⟩
   refine wa (iI (k : Int)) rfl rfl rfl (aN (aI (q := 7) sq rfl rfl rfl rfl rfl rfl rfl rfl rfl) rfl ?_)
   rintro _ wW _ ⟨(ss : HS _ _ _ [_, _, _, _, _, _, _, [(ms, .cells [(.slice (cA (ky k) 0) (c.blocks.getD k default).ins.length (cK (ky k) 0)), (iI (c.blocks.getD k default).fin), (iI (c.blocks.getD k default).reg), (iI (c.blocks.getD k default).tgt), (iI (c.blocks.getD k default).els)] none false)]] _), _⟩
   let lw : Fp := [(ms, .cells [(.slice (cA (ky k) 0) (c.blocks.getD k default).ins.length (cK (ky k) 0)), (iI (c.blocks.getD k default).fin), (iI (c.blocks.getD k default).reg), (iI (c.blocks.getD k default).tgt), (iI (c.blocks.getD k default).els)] none false)]
   refine ae 2 rfl (wT 2 [] 1 0 [5] [(5, (iI 0))] rfl fun _ => aj (fun (mm : Nat) f H' => ∃ (kx : List Bool) (mK : List SpiT) (i : Nat) (ch : Fp) (c6 : Option Addr) (c8 : Nat) (ci : Fp) (es : Option Addr) (e3 : Nat) (F' : Fz), Fz.le tE F' ∧ HS (Base.of H []) F' H' [c3, c4, p8, ch, [(A, .cells [(iI c.params), (iI c.regs), (.slice U c.blocks.length V), (.slice an E.length ar), (.slice c6 kx.length c8), (.slice f2 (List.replicate c.regs.toNat (default : LocT)).length f3), (.slice es mK.length e3), (iI 0)] none false)], ds, ci, lw] R ∧ OS F' (.slice c6 kx.length c8) kx ch ∧ OS F' (.slice es mK.length e3) mK ci ∧ aD f [(0, (.pointer (some ⟨A, 0, none⟩))), (2, (.slice lV h4.length l7)), (3, (iI (k : Int))), (4, (.pointer (some ⟨ms, 0, none⟩))), (5, (iI (i : Int))), (19, (.slice U c.blocks.length V)), (20, (iI (c.blocks.length : Int))), (21, (iI (k : Int)))] ∧ mm = (c.blocks.getD k default).ins.length + 1 - i ∧ (SpF c kx mK) ∧ (i ≤ (c.blocks.getD k default).ins.length + 1)) _ ⟨sp, sl, 0, e9, ea, e1, fd, em, e2, _, fR, ss, mn, mp, ⟨rfl, rfl, rfl, rfl, rfl, rfl, rfl, rfl, trivial⟩, rfl, (by omega), (by omega)⟩ ?_)
   rintro ws xN wX ⟨kx, mK, i, ch, c6, c8, ci, es, e3, qi, lX, kR, cc, iz, py, rfl, uY, hi⟩ sR
   refine ap _ py (fun _ => ?_)
   clear py
   replace hT := hT.mono lX
   replace g5 := g5.mono lX
   replace b7 := b7.mono lX
   have yZ := uY.len
   refine ah 2 rfl (wU 1 [(2, .o (.slice (cA (ky k) 0) (c.blocks.getD k default).ins.length (cK (ky k) 0)))] 26 30 [] [(30, (.bool (decide ((i : Int) ≤ ((c.blocks.getD k default).ins.length : Int)))))] (ql 46 0 (HS.hc kR (i := 7) rfl) rfl rfl) rfl fun _ => am 4 5 (v := (decide ((i : Int) ≤ ((c.blocks.getD k default).ins.length : Int)))) rfl rfl rfl rfl (fun ns => ?_) (fun ns => ?_))
   ·
    have oz := ns
    try simp only [BS] at oz
    have plst : Lst ((E.getD k default).getD i default) (ptS c k i) := px.pt i (show i ≤ (c.blocks.getD k default).ins.length by omega)
    have u9 := Lst.len plst hrg.1 (fun r h => gX vF hbn h)
    have hunr := lst_rng plst (fun r h => gX vF hbn h)
    refine aa ?_
    obtain ⟨pk, pX⟩ := Sv.view (OS.sv b7 kR (i := 2) rfl)
    have rA := fL (pX k)
    obtain ⟨kz, pY⟩ := Sv.view (SR.sv rA kR)
    have oq := fL (pY i)
    let pf : Fp := [(A, .cells [(iI c.params), (iI c.regs), (.slice U c.blocks.length V), (.slice an E.length ar), (.slice c6 kx.length c8), (.slice f2 (List.replicate c.regs.toNat (default : LocT)).length f3), (.slice es mK.length e3), (iI 0)] none false)]
    refine wRo 11 0 [(4, .o (.slice an E.length ar)), (7, .o (.slice (cA (pk k) 0) (E.getD k default).length (cK (pk k) 0))), (10, .o (.slice (cA (kz i) 0) ((E.getD k default).getD i default).length (cK (kz i) 0)))] 33 43 [] [(33, (.pointer (some ⟨A, 0, none⟩))), (43, (.slice (cA (kz i) 0) ((E.getD k default).getD i default).length (cK (kz i) 0)))] (vA (ql 90 3 (HS.hc kR (i := 4) rfl) rfl rfl) (vA (Sv.ix (j := (k : Int)) (OS.sv b7 kR (i := 2) rfl) (by omega) (by omega)) (vA (ql 32 0 (vL (pX k) (by omega)) rfl rfl) (vA (Sv.ix (j := (i : Int)) (SR.sv rA kR) (by omega) (by omega)) (vA (ql 25 0 (vL (pY i) (by omega)) rfl rfl) trivial))))) rfl fun _ => aA (R := fun v H' => ∃ (ur : List Int) (g6 : Option Addr) (g8 : Nat) (F' : Fz), Fz.le qi F' ∧ HS (Base.of H []) F' H' [c3, c4, p8, ch, pf, ds, ci, lw] R ∧ SR F' (.slice g6 ur.length g8) ur ∧ v = (.slice g6 ur.length g8) ∧ (ur = uns (kx) (((E.getD k default).getD i default)))) (aq rfl rfl rfl) rfl rfl ?_ ?_
    ·
     have hspl : (kx).length = c.regs.toNat := by omega
     refine aH Tryd.func103 rfl rfl (ah 1 rfl (wT 2 [] 4 4 [] [(4, (.slice none 0 0))] rfl fun _ => wT 3 [] 1 0 [5] [(5, (.slice none 0 0))] rfl fun _ => wT 2 [] 8 10 [] [(8, (.slice (cA (kz i) 0) ((E.getD k default).getD i default).length (cK (kz i) 0))), (9, (iI (((E.getD k default).getD i default).length : Int))), (10, (iI 0))] rfl fun _ => ?_))
     have nY := HS.snoc kR
     have nY : HS _ _ _ [_, _, _, ch, pf, _, ci, _, []] _ := nY
     refine aj (fun (mm : Nat) f H' => ∃ (uo : List Int) (uj : Nat) (hH : Option Addr) (hK : Nat) (k7 : Fp) (F' : Fz), Fz.le qi F' ∧ HS (Base.of H []) F' H' [c3, c4, p8, ch, pf, ds, ci, lw, k7] R ∧ OS F' (.slice hH uo.length hK) uo k7 ∧ aD f [(0, (.pointer (some ⟨A, 0, none⟩))), (5, (.slice hH uo.length hK)), (8, (.slice (cA (kz i) 0) ((E.getD k default).getD i default).length (cK (kz i) 0))), (9, (iI (((E.getD k default).getD i default).length : Int))), (10, (iI (uj : Int)))] ∧ mm = (((E.getD k default).getD i default)).length - uj ∧ (uo = uns (kx) ((((E.getD k default).getD i default)).take uj)) ∧ (uj ≤ (((E.getD k default).getD i default)).length)) _ ⟨([] : List Int), 0, none, 0, [], _, fR, nY, (OS.nil : OS _ (.slice none 0 0) ([] : List Int) []), ⟨rfl, rfl, rfl, rfl, rfl, trivial⟩, rfl, (by rfl), (by omega)⟩ ?_
     rintro wt xO w1 ⟨uo, uj, hH, hK, k7, wD, lZ, kS, mC, pA, rfl, hu, huj⟩ p5
     refine ap _ pA (fun _ => ?_)
     clear pA
     replace cc := cc.mono lZ
     replace oq := oq.mono lZ
     have hul : uo.length ≤ uj := by rw [hu]; exact a0c jY (by rw [a0g]; omega)
     refine ah 1 rfl (wT 2 [] 11 11 [] [(11, (.bool (decide ((uj : Int) < (((E.getD k default).getD i default).length : Int)))))] rfl fun _ => am 4 5 (v := (decide ((uj : Int) < (((E.getD k default).getD i default).length : Int)))) rfl rfl rfl rfl (fun nt => ?_) (fun nt => ?_))
     ·
      have oA := nt
      try simp only [BS] at oA
      have hux := d3 hunr (k := uj) (by omega)
      obtain ⟨vx, pZ⟩ := Sv.view (SR.sv oq kS)
      have xX := fI (pZ uj)
      refine wR 2 [(1, .o (iI (((E.getD k default).getD i default).getD uj 0)))] 12 13 [7] [(7, (iI (((E.getD k default).getD i default).getD uj 0)))] (vA (Sv.ix (j := (uj : Int)) (SR.sv oq kS) (by omega) (by omega)) (vA (ql 3 0 (vI (pZ uj) (by omega)) rfl rfl) trivial)) rfl fun _ => ?_
      obtain ⟨vy, sL⟩ := Sv.view (OS.sv cc kS (i := 3) rfl)
      refine wR 1 [(3, .o (.slice c6 kx.length c8)), (6, .o (.bool (kx.getD (((E.getD k default).getD i default).getD uj 0).toNat false)))] 14 21 [] [(21, (.bool (!(kx.getD (((E.getD k default).getD i default).getD uj 0).toNat false))))] (vA (ql 53 4 (HS.hc kS (i := 4) rfl) rfl rfl) (vA (Sv.ix (j := (((E.getD k default).getD i default).getD uj 0)) (OS.sv cc kS (i := 3) rfl) (by omega) (by omega)) (vA (ql 4 0 (vB (sL (((E.getD k default).getD i default).getD uj 0).toNat) (by omega)) rfl rfl) trivial))) rfl fun _ => am 0 2 (v := (!(kx.getD (((E.getD k default).getD i default).getD uj 0).toNat false))) rfl rfl rfl rfl (fun nv => ?_) (fun nv => ?_)
      ·
       have oB := nv
       try simp only [BS] at oB
       refine aa (wTo 2 0 [] 22 23 [] [(22, (.slice hH uo.length hK)), (23, (iI (((E.getD k default).getD i default).getD uj 0)))] rfl fun _ => aG (bt (α := Int) (ps := [(0, (iI (((E.getD k default).getD i default).getD uj 0)))]) (cells := [(iI (((E.getD k default).getD i default).getD uj 0))]) ([(((E.getD k default).getD i default).getD uj 0)] : List Int) kS rfl rfl rfl (by kernel_rfl) ⟨[(iI (((E.getD k default).getD i default).getD uj 0))], [], rfl, ⟨rfl, by omega⟩, rfl⟩ rfl) rfl rfl ?_)
       rintro _ w2 uw ⟨xx, yf, rfl, r1, (pR : HS _ _ _ [_, _, _, _, _, _, _, _, k7, uw] _), _⟩
       refine aG (bw (α := Int) (q := 8) mC pR rfl rfl rfl (OS.sv r1 pR (i := 9) rfl) rfl rfl rfl rfl rfl rfl rfl (by (simp only [a05, a0a, a0e, a0g, a0o]; omega))) rfl rfl ?_
       rintro _ w3 rn ⟨qp, rh, rfl, r2, (sw : HS _ _ _ [_, _, _, _, _, _, _, _, rn, _] _), _⟩
       refine wa (.slice qp (uo ++ ([(((E.getD k default).getD i default).getD uj 0)] : List Int)).length rh) rfl rfl rfl (ae 2 rfl (wU 1 [] 10 10 [26] [(10, (iI ((uj : Int) + 1)))] (vi (n := (uj : Int) + 1) (by omega)) rfl fun _ => p5 _ _ _ ?_ ⟨uo ++ ([(((E.getD k default).getD i default).getD uj 0)] : List Int), uj + 1, qp, rh, rn, _, (lZ), (HS.sub sw (a03 _ _)), r2, ⟨rfl, rfl, rfl, rfl, rfl, trivial⟩, rfl, (by exact (hP (by omega) hu).1 (by assumption)), (by omega)⟩))
       omega
      have oB := nv
      try simp only [BS] at oB
      refine wU 1 [] 10 10 [26] [(10, (iI ((uj : Int) + 1)))] (vi (n := (uj : Int) + 1) (by omega)) rfl fun _ => p5 _ _ _ ?_ ⟨uo, uj + 1, hH, hK, k7, _, (lZ), kS, mC, ⟨rfl, rfl, rfl, rfl, rfl, trivial⟩, rfl, (by exact (hP (by omega) hu).2 (by simp_all)), (by omega)⟩
      omega
     have oA := nt
     try simp only [BS] at oA
     refine wT 1 [] 4 4 [27] [(4, (.slice hH uo.length hK))] rfl fun _ => ?_
     obtain ⟨wE, rK, nZ, sa, wg⟩ := OS.frz mC kS (i := 8) rfl
     have nZ : HS _ _ _ [_, _, _, _, _, _, _, _, _] _ := nZ
     refine ak ⟨.inr rfl, _, rfl, uo, hH, hK, _, (fT (lZ) rK), (HS.sub nZ (a03 _ _)), sa, rfl, (by rw [a0f (by omega)] at hu; exact hu)⟩
    rintro _ wZ ⟨ur, g6, g8, tF, lY, su, oc, rfl, hur⟩
    replace cc := cc.mono lY
    replace iz := iz.mono lY
    refine wa (.slice g6 ur.length g8) rfl rfl rfl (ae 2 rfl (aj (fun (mm : Nat) f H' => ∃ (kW : List Bool) (lI : List SpiT) (lv : List Int) (dk : Option Addr) (dl : Nat) (fi : Fp) (a3 : Option Addr) (a5 : Nat) (f0 : Fp) (et : Option Addr) (e4 : Nat) (F' : Fz), Fz.le tF F' ∧ HS (Base.of H []) F' H' [c3, c4, p8, fi, [(A, .cells [(iI c.params), (iI c.regs), (.slice U c.blocks.length V), (.slice an E.length ar), (.slice a3 kW.length a5), (.slice f2 (List.replicate c.regs.toNat (default : LocT)).length f3), (.slice et lI.length e4), (iI 0)] none false)], ds, f0, lw] R ∧ SR F' (.slice dk lv.length dl) lv ∧ OS F' (.slice a3 kW.length a5) kW fi ∧ OS F' (.slice et lI.length e4) lI f0 ∧ aD f [(0, (.pointer (some ⟨A, 0, none⟩))), (2, (.slice lV h4.length l7)), (3, (iI (k : Int))), (4, (.pointer (some ⟨ms, 0, none⟩))), (5, (iI (i : Int))), (6, (.slice dk lv.length dl)), (19, (.slice U c.blocks.length V)), (20, (iI (c.blocks.length : Int))), (21, (iI (k : Int)))] ∧ mm = lv.length ∧ (SpF c kW lI) ∧ (∀ x ∈ lv, 0 ≤ x ∧ x < c.regs) ∧ (∀ x ∈ lv, kW.getD x.toNat false = false) ∧ (lv.length ≤ 3000)) _ ⟨kx, mK, ur, g6, g8, ch, c6, c8, ci, es, e3, _, fR, su, oc, cc, iz, ⟨rfl, rfl, rfl, rfl, rfl, rfl, rfl, rfl, rfl, trivial⟩, rfl, (by assumption), (by rw [hur]; exact mem_mono hunr fun x hx => (jX hx).1), (by rw [hur]; exact fun x hx => (jX hx).2), (by rw [hur]; exact a0c jY (by omega))⟩ ?_))
    rintro wu xP qo ⟨kW, lI, lv, dk, dl, fi, a3, a5, f0, et, e4, wF, mN, hR, b6, hg, i1, pB, rfl, qD, hlv, hlu, hll⟩ sS
    refine ap _ pB (fun _ => ?_)
    clear pB
    replace hT := (hT.mono lY).mono mN
    replace g5 := (g5.mono lY).mono mN
    have y0 := qD.len
    have y1 := qD.small vF
    have hunr := hlv
    refine ah 2 rfl (wT 1 [] 45 47 [] [(47, (.bool (decide ((5 : Int) < (lv.length : Int)))))] rfl fun _ => am 4 5 (v := (decide ((5 : Int) < (lv.length : Int)))) rfl rfl rfl rfl (fun nw => ?_) (fun nw => ?_))
    ·
     have oC := nw
     try simp only [BS] at oC
     have y5 := d3 hlv (k := 0) (by omega)
     obtain ⟨vz, p0⟩ := Sv.view (SR.sv b6 hR)
     have xY := fI (p0 0)
     refine wR 3 [(2, .o (iI (lv.getD 0 0)))] 51 53 [7] [(7, (iI (lv.getD 0 0)))] (vA (Sv.ix (j := 0) (SR.sv b6 hR) (by decide) (by omega)) (vA (ql 3 0 (vI (p0 0) (by omega)) rfl rfl) trivial)) rfl fun _ => wT 2 [] 54 56 [] [(54, (.slice dk lv.length dl)), (55, (iI (lv.length : Int))), (56, (iI 0))] rfl fun _ => aj (fun (mm : Nat) f H' => ∃ (rz : Int) (p : Nat), H' = qo ∧ aD f [(0, (.pointer (some ⟨A, 0, none⟩))), (2, (.slice lV h4.length l7)), (3, (iI (k : Int))), (4, (.pointer (some ⟨ms, 0, none⟩))), (5, (iI (i : Int))), (6, (.slice dk lv.length dl)), (7, (iI rz)), (19, (.slice U c.blocks.length V)), (20, (iI (c.blocks.length : Int))), (21, (iI (k : Int))), (54, (.slice dk lv.length dl)), (55, (iI (lv.length : Int))), (56, (iI (p : Int)))] ∧ mm = lv.length - p ∧ (rz ∈ lv) ∧ (p ≤ lv.length)) _ ⟨(lv.getD 0 0), 0, rfl, ⟨rfl, rfl, rfl, rfl, rfl, rfl, rfl, rfl, rfl, rfl, rfl, rfl, rfl, trivial⟩, rfl, (by exact iS (by omega)), (by omega)⟩ ?_
     rintro wv xQ qo ⟨rz, p, rfl, pC, rfl, hrz, hp⟩ p6
     refine ap _ pC (fun _ => ?_)
     clear pC
     have hrr := hlv rz hrz
     refine ah 1 rfl (wT 2 [] 57 57 [] [(57, (.bool (decide ((p : Int) < (lv.length : Int)))))] rfl fun _ => am 4 4 (v := (decide ((p : Int) < (lv.length : Int)))) rfl rfl rfl rfl (fun nx => ?_) (fun nx => ?_))
     ·
      have oD := nx
      try simp only [BS] at oD
      have hxp := d3 hlv (k := p) (by omega)
      obtain ⟨vC, p1⟩ := Sv.view (SR.sv b6 hR)
      have xZ := fI (p1 p)
      refine wR 2 [(1, .o (iI (lv.getD p 0)))] 58 59 [9] [(9, (iI (lv.getD p 0)))] (vA (Sv.ix (j := (p : Int)) (SR.sv b6 hR) (by omega) (by omega)) (vA (ql 3 0 (vI (p1 p) (by omega)) rfl rfl) trivial)) rfl fun _ => ?_
      obtain ⟨vD, mY⟩ := Sv.view (SR.sv g5 hR)
      have x0 := fI (mY (lv.getD p 0).toNat)
      have x1 := fI (mY rz.toNat)
      refine wRD 1 [(3, .o (iI (h4.getD (lv.getD p 0).toNat 0))), (7, .o (iI (h4.getD rz.toNat 0)))] 60 68 [] [(68, (.bool (decide ((h4.getD (lv.getD p 0).toNat 0) ≤ (h4.getD rz.toNat 0)))))] (vA (Sv.ix (j := (lv.getD p 0)) (SR.sv g5 hR) (by omega) (by omega)) (vA (ql 3 0 (hc0 (vI (mY (lv.getD p 0).toNat) (by omega))) rfl rfl) (vA (Sv.ix (j := rz) (SR.sv g5 hR) (by omega) (by omega)) (vA (ql 3 0 (hc0 (vI (mY rz.toNat) (by omega))) rfl rfl) trivial)))) rfl rfl fun _ => am 0 2 (v := (decide ((h4.getD (lv.getD p 0).toNat 0) ≤ (h4.getD rz.toNat 0)))) rfl rfl rfl rfl (fun ny => ?_) (fun ny => ?_)
      ·
       have oE := ny
       try simp only [BS] at oE
       refine wT 2 [] 69 69 [7] [(7, (iI (lv.getD p 0)))] rfl fun _ => wU 1 [] 56 56 [70] [(56, (iI ((p : Int) + 1)))] (vi (n := (p : Int) + 1) (by omega)) rfl fun _ => p6 _ _ _ ?_ ⟨(lv.getD p 0), p + 1, rfl, ⟨rfl, rfl, rfl, rfl, rfl, rfl, rfl, rfl, rfl, rfl, rfl, rfl, rfl, trivial⟩, rfl, (by exact iS (by omega)), (by omega)⟩
       omega
      have oE := ny
      try simp only [BS] at oE
      refine wU 1 [] 56 56 [70] [(56, (iI ((p : Int) + 1)))] (vi (n := (p : Int) + 1) (by omega)) rfl fun _ => p6 _ _ _ ?_ ⟨rz, p + 1, rfl, ⟨rfl, rfl, rfl, rfl, rfl, rfl, rfl, rfl, rfl, rfl, rfl, rfl, rfl, trivial⟩, rfl, (by omega), (by omega)⟩
      omega
     have oD := nx
     try simp only [BS] at oD
     have hrr := hlv rz hrz
     refine aa (wTo 6 0 [] 71 76 [] [(71, (.pointer (some ⟨A, 0, none⟩))), (72, (iI rz)), (73, (iI (k : Int))), (74, (iI (i : Int))), (75, (.slice dk lv.length dl)), (76, (iI rz))] rfl fun _ => aA (aq rfl rfl rfl) rfl rfl (na.iy ex lv rz (HS.call hR) b6 (by omega) hT (by omega)) ?_)
     rintro _ w4 ⟨lW, l8, yz, ux, wG, mO, n1, rfl, qY, rfl⟩
     replace n1 : HS _ _ _ [c3, c4, p8, fi, [(A, .cells [(iI c.params), (iI c.regs), (.slice U c.blocks.length V), (.slice an E.length ar), (.slice a3 kW.length a5), (.slice f2 (List.replicate c.regs.toNat (default : LocT)).length f3), (.slice et lI.length e4), (iI 0)] none false)], ds, f0, lw, ux] _ := HS.back hR rfl n1
     let pg : Value := (.agg ⟨[(iI rz), (iI 2), (iI (k : Int)), (iI (i : Int)), (.slice lW (da lv [rz]).length l8)]⟩)
     refine wTo 1 7 [] 78 78 [] [(78, pg)] rfl fun _ => ?_
     obtain ⟨tG, mP, n2, sb, wh⟩ := OS.frz qY n1 (i := 8) rfl
     have n2 : HS _ _ _ [_, _, _, _, _, _, _, _, []] _ := n2
     replace b6 := (b6.mono mO).mono mP
     replace hg := (hg.mono mO).mono mP
     replace i1 := (i1.mono mO).mono mP
     refine aA (R := fun v H' => ∃ (s1 : List Bool) (s2 : List SpiT) (c9 : Fp) (ez : Option Addr) (e5 : Nat) (dd : Fp) (hf : Option Addr) (ht : Nat) (F' : Fz), Fz.le tG F' ∧ HS (Base.of H []) F' H' [c3, c4, p8, c9, [(A, .cells [(iI c.params), (iI c.regs), (.slice U c.blocks.length V), (.slice an E.length ar), (.slice ez s1.length e5), (.slice f2 (List.replicate c.regs.toNat (default : LocT)).length f3), (.slice hf s2.length ht), (iI 0)] none false)], ds, dd, lw, []] R ∧ OS F' (.slice ez s1.length e5) s1 c9 ∧ OS F' (.slice hf s2.length ht) s2 dd ∧ v = .tuple #[] ∧ (s1 = (kW).set (rz).toNat true) ∧ (s2.length = (lI).length + 1)) (aq rfl rfl rfl) rfl rfl ?_ ?_
     ·
      refine aH Tryd.func102 rfl rfl (ah 1 rfl (aa (aG (bG n2 rfl rfl) rfl rfl ?_)))
      rintro _ w6 _ ⟨np, rfl, (l4 : HS _ _ _ [_, _, _, _, _, _, _, _, _, [(np, .cells [(iI rz), (iI 2), (iI (k : Int)), (iI (i : Int)), (.slice lW (da lv [rz]).length l8)] none false)]] _), _⟩
      refine ae 2 rfl (aS rfl (fm (.pointer (some ⟨A, 0, none⟩)) rfl rfl rfl (wfv (v := (.pointer (some ⟨A, 0, none⟩))) (cG rfl) (wfv (v := (.pointer (some ⟨A, 4, none⟩))) (bn rfl rfl) (aF (v := (.slice a3 kW.length a5)) (id := .l A) (aU (i := 4) rfl rfl (HS.hc l4.log0 (i := 4) rfl) rfl rfl) rfl rfl (bx rfl) (kb rfl) ?_)))))
      refine wfv (v := (.pointer (some ⟨np, 0, none⟩))) (bn rfl rfl) (aF (v := (iI rz)) (id := .l np) (aU (i := 0) rfl rfl (HS.hc l4.log0 (i := 9) rfl) rfl rfl) rfl rfl (bx rfl) (kb rfl) (wfv (v := (.pointer (some ⟨sB (.slice a3 kW.length a5), sO (.slice a3 kW.length a5) + rz.toNat * Rp.sz Bool, none⟩))) (bh (α := Bool) (j := rz) rfl rfl rfl rfl (OS.sv hg l4.log0 (i := 3) rfl) (by omega) (by omega)) (eN (id := .x (fi.map Prod.fst)) (db (α := Bool) (j := rz.toNat) (off := 0) (q := 3) true hg l4.log0 rfl rfl rfl rfl rfl rfl rfl rfl (aM (x := false) (by omega)) rfl (by rintro cs rfl; exact ⟨a07 rfl, rfl⟩)) rfl (by rintro _ _ o7 ⟨nR, _, hwr⟩; exact bQ rfl rfl (Wr.did hwr)) (kb rfl) ?_)))
      rintro _ tS o7 ⟨nR, ib, _⟩ s3 qP
      replace ib := HS.lg ib l4 qP
      generalize ({ tS with log := s3 } : Heap) = vk at ib ⊢
      have ib : HS _ _ _ [_, _, _, o7, _, _, _, _, _, _] _ := ib
      have u2 := OS.len' nR
      refine bT (ah 1 rfl (aS rfl (fm (.pointer (some ⟨A, 0, none⟩)) rfl rfl rfl (fm (.pointer (some ⟨A, 0, none⟩)) rfl rfl rfl (wfv (v := (.pointer (some ⟨A, 0, none⟩))) (cG rfl) ?_)))))
      refine wfv (v := (.pointer (some ⟨A, 5, none⟩))) (bn rfl rfl) (wfv (v := (.pointer (some ⟨A, 6, none⟩))) (bn rfl rfl) (aF (v := (.slice et lI.length e4)) (id := .l A) (aU (i := 6) rfl rfl (HS.hc ib.log0 (i := 4) rfl) rfl rfl) rfl rfl (bx rfl) (kb rfl) (aF (v := pg) (id := .l np) (eL (i := 0) rfl rfl rfl (HS.hc ib.log0 (i := 9) rfl) rfl rfl rfl) rfl rfl (bx rfl) (kb rfl) (bM (id := .a) (bt (α := SpiT) (ps := [(0, pg)]) (cells := [(iI rz), (iI 2), (iI (k : Int)), (iI (i : Int)), (.slice lW (da lv [rz]).length l8)]) ([(⟨rz, 2, (k : Int), (i : Int), da lv [rz]⟩ : SpiT)] : List SpiT) ib.log0 rfl rfl rfl (by kernel_rfl) ⟨[(iI rz), (iI 2), (iI (k : Int)), (iI (i : Int)), (.slice lW (da lv [rz]).length l8)], [], rfl, ⟨lW, l8, rfl, by (dsimp only; omega), by (dsimp only; omega), by (dsimp only; omega), by (dsimp only; omega), sb⟩, rfl⟩ rfl) rfl rfl (fun _ _ _ _ => gZ rfl rfl rfl) (kb rfl) ?_))))
      rintro _ tT uy ⟨xy, yg, rfl, r3, kT, _⟩ s4 qQ
      replace kT := HS.lg kT ib qQ
      generalize ({ tT with log := s4 } : Heap) = vm at kT ⊢
      have kT : HS _ _ _ [_, _, _, _, _, _, _, _, _, _, uy] _ := kT
      refine bM (id := .x (f0.map Prod.fst)) (bw (α := SpiT) (q := 6) i1 kT.log0 rfl rfl rfl (OS.sv r3 kT.log0 (i := 10) rfl) rfl rfl rfl rfl rfl rfl rfl (by (simp only [a05, a0a, a0e, a0g, a0o]; omega))) rfl rfl (by rintro _ _ o8 ⟨ow, o3, rfl, pK, _, hwr⟩; exact bQ rfl rfl (Wr.did hwr)) (kb rfl) ?_
      rintro _ tU o8 ⟨ow, o3, rfl, pK, lj, _⟩ s5 qR
      replace lj := HS.lg lj kT qR
      generalize ({ tU with log := s5 } : Heap) = vn at lj ⊢
      have lj : HS _ _ _ [_, _, _, _, _, _, o8, _, _, _, _] _ := lj
      refine wfv (v := (.pointer (some ⟨A, 0, none⟩))) (cG rfl) (wfv (v := (.pointer (some ⟨A, 5, none⟩))) (bn rfl rfl) (wfv (v := (.pointer (some ⟨A, 6, none⟩))) (bn rfl rfl) (eN (id := .x [A]) (aI (q := 4) lj.log0 rfl rfl rfl rfl rfl rfl rfl rfl rfl) rfl (by rintro _ _ _ ⟨_, hwr⟩; exact bQ rfl rfl (Wr.did hwr)) (kb rfl) ?_)))
      rintro _ tV _ ⟨lN, _⟩ s6 qS
      replace lN := HS.lg lN lj qS
      generalize ({ tV with log := s6 } : Heap) = vo at lN ⊢
      have lN : HS _ _ _ [_, _, _, _, [(A, .cells [(iI c.params), (iI c.regs), (.slice U c.blocks.length V), (.slice an E.length ar), (.slice a3 kW.length a5), (.slice f2 (List.replicate c.regs.toNat (default : LocT)).length f3), (.slice ow (lI ++ ([(⟨rz, 2, (k : Int), (i : Int), da lv [rz]⟩ : SpiT)] : List SpiT)).length o3), (iI 0)] none false)], _, _, _, _, _, _] _ := lN
      refine bT (aT ⟨.inl rfl, _, rfl, kW.set rz.toNat true, lI ++ ([(⟨rz, 2, (k : Int), (i : Int), da lv [rz]⟩ : SpiT)] : List SpiT), o7, a3, a5, o8, ow, o3, _, fR, (by simpa only [a0h] using (HS.sub lN (a03 _ _))), (OS.norm nR), pK, rfl, (by rfl), (by simp)⟩)
     rintro _ w5 ⟨s1, s2, c9, ez, e5, dd, hf, ht, qj, pl, sx, c7, lu, rfl, mI, ti⟩
     replace b6 := b6.mono pl
     let ph : Fp := [(A, .cells [(iI c.params), (iI c.regs), (.slice U c.blocks.length V), (.slice an E.length ar), (.slice ez s1.length e5), (.slice f2 (List.replicate c.regs.toNat (default : LocT)).length f3), (.slice hf s2.length ht), (iI 0)] none false)]
     refine ae 2 rfl (aa (wTo 2 0 [] 48 49 [] [(48, (.pointer (some ⟨A, 0, none⟩))), (49, (.slice dk lv.length dl))] rfl fun _ => aA (R := fun v H' => ∃ (ur : List Int) (g7 : Option Addr) (g9 : Nat) (F' : Fz), Fz.le qj F' ∧ HS (Base.of H []) F' H' [c3, c4, p8, c9, ph, ds, dd, lw, []] R ∧ SR F' (.slice g7 ur.length g9) ur ∧ v = (.slice g7 ur.length g9) ∧ (ur = uns (s1) (lv))) (aq rfl rfl rfl) rfl rfl ?_ ?_))
     ·
      have hspl : (s1).length = c.regs.toNat := by (rw [mI, a0h]; omega)
      refine aH Tryd.func103 rfl rfl (ah 1 rfl (wT 2 [] 4 4 [] [(4, (.slice none 0 0))] rfl fun _ => wT 3 [] 1 0 [5] [(5, (.slice none 0 0))] rfl fun _ => wT 2 [] 8 10 [] [(8, (.slice dk lv.length dl)), (9, (iI (lv.length : Int))), (10, (iI 0))] rfl fun _ => ?_))
      have n3 := HS.snoc sx
      have n3 : HS _ _ _ [c3, c4, p8, c9, ph, ds, dd, lw, [], []] _ := n3
      refine aj (fun (mm : Nat) f H' => ∃ (uo : List Int) (uj : Nat) (hI : Option Addr) (hM : Nat) (k8 : Fp) (F' : Fz), Fz.le qj F' ∧ HS (Base.of H []) F' H' [c3, c4, p8, c9, ph, ds, dd, lw, [], k8] R ∧ OS F' (.slice hI uo.length hM) uo k8 ∧ aD f [(0, (.pointer (some ⟨A, 0, none⟩))), (5, (.slice hI uo.length hM)), (8, (.slice dk lv.length dl)), (9, (iI (lv.length : Int))), (10, (iI (uj : Int)))] ∧ mm = (lv).length - uj ∧ (uo = uns (s1) ((lv).take uj)) ∧ (uj ≤ (lv).length)) _ ⟨([] : List Int), 0, none, 0, [], _, fR, n3, (OS.nil : OS _ (.slice none 0 0) ([] : List Int) []), ⟨rfl, rfl, rfl, rfl, rfl, trivial⟩, rfl, (by rfl), (by omega)⟩ ?_
      rintro ww xR w8 ⟨uo, uj, hI, hM, k8, wI, l0, kU, mD, pD, rfl, hu, huj⟩ p7
      refine ap _ pD (fun _ => ?_)
      clear pD
      replace b6 := b6.mono l0
      replace c7 := c7.mono l0
      have hul : uo.length ≤ uj := by rw [hu]; exact a0c jY (by rw [a0g]; omega)
      refine ah 1 rfl (wT 2 [] 11 11 [] [(11, (.bool (decide ((uj : Int) < (lv.length : Int)))))] rfl fun _ => am 4 5 (v := (decide ((uj : Int) < (lv.length : Int)))) rfl rfl rfl rfl (fun nz => ?_) (fun nz => ?_))
      ·
       have oG := nz
       try simp only [BS] at oG
       have hux := d3 hunr (k := uj) (by omega)
       obtain ⟨vE, p2⟩ := Sv.view (SR.sv b6 kU)
       have x2 := fI (p2 uj)
       refine wR 2 [(1, .o (iI (lv.getD uj 0)))] 12 13 [7] [(7, (iI (lv.getD uj 0)))] (vA (Sv.ix (j := (uj : Int)) (SR.sv b6 kU) (by omega) (by omega)) (vA (ql 3 0 (vI (p2 uj) (by omega)) rfl rfl) trivial)) rfl fun _ => ?_
       obtain ⟨vG, sM⟩ := Sv.view (OS.sv c7 kU (i := 3) rfl)
       refine wR 1 [(3, .o (.slice ez s1.length e5)), (6, .o (.bool (s1.getD (lv.getD uj 0).toNat false)))] 14 21 [] [(21, (.bool (!(s1.getD (lv.getD uj 0).toNat false))))] (vA (ql 53 4 (HS.hc kU (i := 4) rfl) rfl rfl) (vA (Sv.ix (j := (lv.getD uj 0)) (OS.sv c7 kU (i := 3) rfl) (by omega) (by omega)) (vA (ql 4 0 (vB (sM (lv.getD uj 0).toNat) (by omega)) rfl rfl) trivial))) rfl fun _ => am 0 2 (v := (!(s1.getD (lv.getD uj 0).toNat false))) rfl rfl rfl rfl (fun nA => ?_) (fun nA => ?_)
       ·
        have oH := nA
        try simp only [BS] at oH
        refine aa (wTo 2 0 [] 22 23 [] [(22, (.slice hI uo.length hM)), (23, (iI (lv.getD uj 0)))] rfl fun _ => aG (bt (α := Int) (ps := [(0, (iI (lv.getD uj 0)))]) (cells := [(iI (lv.getD uj 0))]) ([(lv.getD uj 0)] : List Int) kU rfl rfl rfl (by kernel_rfl) ⟨[(iI (lv.getD uj 0))], [], rfl, ⟨rfl, by omega⟩, rfl⟩ rfl) rfl rfl ?_)
        rintro _ w9 uz ⟨xz, yh, rfl, r4, (pS : HS _ _ _ [_, _, _, _, _, _, _, _, _, k8, uz] _), _⟩
        refine aG (bw (α := Int) (q := 9) mD pS rfl rfl rfl (OS.sv r4 pS (i := 10) rfl) rfl rfl rfl rfl rfl rfl rfl (by (simp only [a05, a0a, a0e, a0g, a0o]; omega))) rfl rfl ?_
        rintro _ xa rp ⟨qq, ri, rfl, r5, (sC : HS _ _ _ [_, _, _, _, _, _, _, _, _, rp, _] _), _⟩
        refine wa (.slice qq (uo ++ ([(lv.getD uj 0)] : List Int)).length ri) rfl rfl rfl (ae 2 rfl (wU 1 [] 10 10 [26] [(10, (iI ((uj : Int) + 1)))] (vi (n := (uj : Int) + 1) (by omega)) rfl fun _ => p7 _ _ _ ?_ ⟨uo ++ ([(lv.getD uj 0)] : List Int), uj + 1, qq, ri, rp, _, (l0), (HS.sub sC (a03 _ _)), r5, ⟨rfl, rfl, rfl, rfl, rfl, trivial⟩, rfl, (by exact (hP (by omega) hu).1 (by assumption)), (by omega)⟩))
        omega
       have oH := nA
       try simp only [BS] at oH
       refine wU 1 [] 10 10 [26] [(10, (iI ((uj : Int) + 1)))] (vi (n := (uj : Int) + 1) (by omega)) rfl fun _ => p7 _ _ _ ?_ ⟨uo, uj + 1, hI, hM, k8, _, (l0), kU, mD, ⟨rfl, rfl, rfl, rfl, rfl, trivial⟩, rfl, (by exact (hP (by omega) hu).2 (by simp_all)), (by omega)⟩
       omega
      have oG := nz
      try simp only [BS] at oG
      refine wT 1 [] 4 4 [27] [(4, (.slice hI uo.length hM))] rfl fun _ => ?_
      obtain ⟨wJ, rL, n4, sc, wj⟩ := OS.frz mD kU (i := 9) rfl
      have n4 : HS _ _ _ [_, _, _, _, _, _, _, _, _, _] _ := n4
      refine ak ⟨.inr rfl, _, rfl, uo, hI, hM, _, (fT (l0) rL), (HS.sub n4 (a03 _ _)), sc, rfl, (by rw [a0f (by omega)] at hu; exact hu)⟩
     rintro _ w7 ⟨ur, g7, g9, wH, nM, sy, od, rfl, hur⟩
     replace c7 := c7.mono nM
     replace lu := lu.mono nM
     refine wa (.slice g7 ur.length g9) rfl rfl rfl (ae 1 rfl (sS _ _ _ ?_ ⟨s1, s2, ur, g7, g9, c9, ez, e5, dd, hf, ht, _, (fT (fT (fT (fT (mN) mO) mP) pl) nM), (HS.sub sy (a03 _ _)), od, c7, lu, ⟨rfl, rfl, rfl, rfl, rfl, rfl, rfl, rfl, rfl, trivial⟩, rfl, (by rw [mI]; exact qD.set (by omega) (hlu _ hrz) (by omega)), (by rw [hur]; exact mem_mono hlv fun x hx => (jX hx).1), (by rw [hur]; exact fun x hx => (jX hx).2), (by rw [hur]; exact a0c jY (by omega))⟩))
     rw [hur, mI]; exact uns_lt hrz (by omega)
    have oC := nw
    try simp only [BS] at oC
    refine wU 1 [] 31 32 [5] [(5, (iI ((i : Int) + 1)))] (vi (n := (i : Int) + 1) (by omega)) rfl fun _ => sR _ _ _ ?_ ⟨kW, lI, i + 1, fi, a3, a5, f0, et, e4, _, (fT (fT (lX) lY) mN), hR, hg, i1, ⟨rfl, rfl, rfl, rfl, rfl, rfl, rfl, rfl, trivial⟩, rfl, (by omega), (by omega)⟩
    omega
   have oz := ns
   try simp only [BS] at oz
   refine wU 1 [] 21 21 [80] [(21, (iI ((k : Int) + 1)))] (vi (n := (k : Int) + 1) (by omega)) rfl fun _ => sQ _ _ _ ?_ ⟨kx, mK, k + 1, ch, c6, c8, ci, es, e3, _, (fT (lL) lX), (HS.sub kR (a03 _ _)), cc, iz, ⟨rfl, rfl, rfl, rfl, rfl, trivial⟩, rfl, (by omega), (by omega)⟩
   omega
  have oy := nr
  try simp only [BS] at oy
  refine aT ⟨.inl rfl, _, rfl, sp, sl, e9, ea, e1, fd, em, e2, _, (fT (lK) lL), mV, mn, mp, rfl, (by exact uX)⟩
 rintro _ wP ⟨spB, slB, hw, ha, hl, hA, he, hn, tC, mM, nX, lq, lr, rfl, hsB⟩
 replace hT := hT.mono mM
 replace c5 := c5.mono mM
 replace lR := lR.mono mM
 refine ae 2 rfl (aa (wm (.pointer (some ⟨A, 0, none⟩)) rfl rfl rfl (aA (R := fun v H' => ∃ (spC : List Bool) (lc : List LocT) (slC : List SpiT) (hB : Fp) (bl : Option Addr) (b0 : Nat) (hC : Fp) (e0 : Option Addr) (e6 : Nat) (hD : Fp) (a0 : Option Addr) (a1 : Nat) (F' : Fz), Fz.le tC F' ∧ HS (Base.of H []) F' H' [c3, c4, p8, hB, [(A, .cells [(iI c.params), (iI c.regs), (.slice U c.blocks.length V), (.slice an E.length ar), (.slice bl spC.length b0), (.slice e0 lc.length e6), (.slice a0 slC.length a1), (iI 0)] none false)], hC, hD] R ∧ OS F' (.slice bl spC.length b0) spC hB ∧ OS F' (.slice e0 lc.length e6) lc hC ∧ OS F' (.slice a0 slC.length a1) slC hD ∧ v = .tuple #[] ∧ (SpF c spC slC) ∧ (lc.length = c.regs.toNat) ∧ (LocF c spC lc c.regs.toNat)) (aq rfl rfl rfl) rfl rfl ?_ ?_)))
 ·
  refine aH Tryd.func62 rfl rfl (ah 1 rfl (aa (wUo 4 0 [(3, .o lQ)] 9 12 [] [(12, lQ)] (qn 24 0 3 (HS.hc nX (i := 4) rfl) rfl rfl rfl rfl) rfl fun _ => aA (aq rfl rfl rfl) rfl rfl (nb.inter_c ex c (HS.call nX) (by omega) (by omega) c5 hT (by assumption)) ?_)))
  rintro _ xc ⟨lU, l6, J, tI, mQ, mW, rfl, kY, wb, v8⟩
  replace mW : HS _ _ _ [c3, c4, p8, hw, [(A, .cells [(iI c.params), (iI c.regs), (.slice U c.blocks.length V), (.slice an E.length ar), (.slice ha spB.length hl), (.slice f2 (List.replicate c.regs.toNat (default : LocT)).length f3), (.slice he slB.length hn), (iI 0)] none false)], ds, hA] _ := HS.back nX rfl mW
  replace lR := lR.mono mQ
  replace lq := lq.mono mQ
  replace lr := lr.mono mQ
  refine wa (.slice lU J.length l6) rfl rfl rfl (ae 2 rfl ?_)
  have hif := (by assumption : d6 c = true → InF c J) hv
  have hgl := hif.len
  refine wU 2 [(4, .o (.slice f2 (List.replicate c.regs.toNat (default : LocT)).length f3))] 14 20 [] [(19, (iI ((List.replicate c.regs.toNat (default : LocT)).length : Int))), (20, (iI 0))] (ql 37 5 (HS.hc mW (i := 4) rfl) rfl rfl) rfl fun _ => aj (fun (mm : Nat) f H' => ∃ (sp : List Bool) (ll : List LocT) (sl : List SpiT) (r : Nat) (a6 : Fp) (Z : Option Addr) (ag : Nat) (a7 : Fp) (N : Option Addr) (T : Nat) (a8 : Fp) (bz : Option Addr) (b2 : Nat) (F' : Fz), Fz.le tI F' ∧ HS (Base.of H []) F' H' [c3, c4, p8, a6, [(A, .cells [(iI c.params), (iI c.regs), (.slice U c.blocks.length V), (.slice an E.length ar), (.slice Z sp.length ag), (.slice N ll.length T), (.slice bz sl.length b2), (iI 0)] none false)], a7, a8] R ∧ OS F' (.slice Z sp.length ag) sp a6 ∧ OS F' (.slice N ll.length T) ll a7 ∧ OS F' (.slice bz sl.length b2) sl a8 ∧ aD f [(0, (.pointer (some ⟨A, 0, none⟩))), (2, (.slice lU J.length l6)), (19, (iI ((List.replicate c.regs.toNat (default : LocT)).length : Int))), (20, (iI (r : Int)))] ∧ mm = c.regs.toNat - r ∧ (SpF c sp sl) ∧ (ll.length = c.regs.toNat) ∧ (LocF c sp ll r) ∧ (r ≤ c.regs.toNat)) _ ⟨spB, List.replicate c.regs.toNat (default : LocT), slB, 0, hw, ha, hl, ds, f2, f3, hA, he, hn, _, fR, mW, lq, lR, lr, ⟨rfl, rfl, rfl, rfl, trivial⟩, rfl, (by assumption), (by simp), (by exact loc_zero), (by omega)⟩ ?_
  rintro wx xS xd ⟨sp, ll, sl, r, a6, Z, ag, a7, N, T, a8, bz, b2, tJ, l1, lO, al, ad, a4, pE, rfl, nk, hll, hlf, hr⟩ ob
  refine ap _ pE (fun _ => ?_)
  clear pE
  replace kY := kY.mono l1
  have yc := nk.len
  have hsm := nk.small vF
  refine ah 1 rfl (wT 2 [] 21 21 [] [(21, (.bool (decide ((r : Int) < ((List.replicate c.regs.toNat (default : LocT)).length : Int)))))] rfl fun _ => am 4 3 (v := (decide ((r : Int) < ((List.replicate c.regs.toNat (default : LocT)).length : Int)))) rfl rfl rfl rfl (fun nB => ?_) (fun nB => ?_))
  ·
   have oI := nB
   try simp only [BS] at oI
   have hrow : Lst ((J).getD r default) (Sy (j9 c) r) := hif.row r (by omega)
   have hrl := Lst.len hrow hrg.1 (fun y h => (sy_lt vF h).1)
   refine wT 3 [] 22 22 [3] [(3, (iI (r : Int)))] rfl fun _ => ?_
   obtain ⟨vJ, sN⟩ := Sv.view (OS.sv al lO (i := 3) rfl)
   refine wR 1 [(3, .o (.slice Z sp.length ag)), (6, .o (.bool (sp.getD r false)))] 23 29 [] [(29, (.bool (sp.getD r false)))] (vA (ql 53 4 (HS.hc lO (i := 4) rfl) rfl rfl) (vA (Sv.ix (j := (r : Int)) (OS.sv al lO (i := 3) rfl) (by omega) (by omega)) (vA (ql 4 0 (vB (sN r) (by omega)) rfl rfl) trivial))) rfl fun _ => am 3 2 (v := (sp.getD r false)) rfl rfl rfl rfl (fun nC => ?_) (fun nC => ?_)
   ·
    have m8 := nC
    try simp only [BS] at m8
    have hsr := m8
    refine wU 1 [] 20 20 [112] [(20, (iI ((r : Int) + 1)))] (vi (n := (r : Int) + 1) (by omega)) rfl fun _ => ob _ _ _ ?_ ⟨sp, ll, sl, r + 1, a6, Z, ag, a7, N, T, a8, bz, b2, _, (l1), lO, al, ad, a4, ⟨rfl, rfl, rfl, rfl, trivial⟩, rfl, (by exact nk), (by exact hll), (by exact hlf.skip (fun _ h => h) hsr), (by omega)⟩
    omega
   have m8 := nC
   try simp only [BS] at m8
   have hsr := m8
   refine aa (aG (rs_arr (List.replicate 5 (0 : Int)) lO rfl (RL.replicate (α := Int) (z := [(iI 0)]) (And.intro rfl (by decide)) 5) rfl) rfl rfl ?_)
   rintro _ xe rq ⟨f9, rfl, pM, (sD : HS _ _ _ [_, _, _, a6, [(A, .cells [(iI c.params), (iI c.regs), (.slice U c.blocks.length V), (.slice an E.length ar), (.slice Z sp.length ag), (.slice N ll.length T), (.slice bz sl.length b2), (iI 0)] none false)], a7, a8, rq] _), _, rO⟩
   have wc := OS.len' pM
   let rD : Fp := [(A, .cells [(iI c.params), (iI c.regs), (.slice U c.blocks.length V), (.slice an E.length ar), (.slice Z sp.length ag), (.slice N ll.length T), (.slice bz sl.length b2), (iI 0)] none false)]
   refine ae 3 rfl (wT 2 [] 30 30 [] [(30, (iI 0))] rfl fun _ => aj (fun (mm : Nat) f H' => ∃ (o1 : List Int) (k1 : Nat) (la : Fp) (F' : Fz), Fz.le tJ F' ∧ HS (Base.of H []) F' H' [c3, c4, p8, a6, rD, a7, a8, la] R ∧ OS F' (.slice (some ⟨f9, 0, none⟩) 5 5) o1 la ∧ (∃ cs, la = [(f9, .cells cs none false)]) ∧ aD f [(0, (.pointer (some ⟨A, 0, none⟩))), (2, (.slice lU J.length l6)), (3, (iI (r : Int))), (4, (.pointer (some ⟨f9, 0, none⟩))), (19, (iI ((List.replicate c.regs.toNat (default : LocT)).length : Int))), (20, (iI (r : Int))), (30, (iI (k1 : Int)))] ∧ mm = 5 - k1 ∧ (o1.length = 5) ∧ (k1 ≤ 5)) _ ⟨List.replicate 5 (0 : Int), 0, rq, _, fR, sD, pM, rO, ⟨rfl, rfl, rfl, rfl, rfl, rfl, rfl, trivial⟩, rfl, (by rfl), (by omega)⟩ ?_)
   rintro wy xT xf ⟨o1, k1, la, tK, ld, mX, mE, nl, pF, rfl, tj, y3⟩ sT
   refine ap _ pF (fun _ => ?_)
   clear pF
   replace kY := kY.mono ld
   replace al := al.mono ld
   replace ad := ad.mono ld
   replace a4 := a4.mono ld
   have uC := OS.len' mE
   refine ah 1 rfl (wT 2 [] 31 31 [] [(31, (.bool (decide ((k1 : Int) < 5))))] rfl fun _ => am 4 6 (v := (decide ((k1 : Int) < 5))) rfl rfl rfl rfl (fun nD => ?_) (fun nD => ?_))
   ·
    have oJ := nD
    try simp only [BS] at oJ
    refine wT 1 [] 32 32 [5] [(5, (iI (k1 : Int)))] rfl fun _ => aa (wm (iI (k1 : Int)) rfl rfl rfl (aR (v := (.pointer (some ⟨sB (.slice (some ⟨f9, 0, none⟩) 5 5), sO (.slice (some ⟨f9, 0, none⟩) 5 5) + k1 * Rp.sz Int, none⟩))) (kF (α := Int) (j := (k1 : Int)) rfl rfl rfl rfl (by omega) (by omega)) rfl rfl (aN (rs_stA (α := Int) (j := k1) (off := 0) (q := 7) (-1) mE mX rfl rfl rfl rfl rfl rfl rfl rfl (aM (x := (0 : Int)) (by omega)) rfl (by rintro cs ⟨rfl, _⟩; exact ⟨a07 rfl, rfl, by omega⟩) nl) rfl ?_)))
    rintro _ xg rt ⟨pN, (sE : HS _ _ _ [_, _, _, _, _, _, _, rt] _), _, qE⟩
    have u3 := OS.len' pN
    refine ee (ah 2 rfl (wU 1 [] 30 30 [35] [(30, (iI ((k1 : Int) + 1)))] (vi (n := (k1 : Int) + 1) (by omega)) rfl fun _ => sT _ _ _ ?_ ⟨o1.set k1 (-1), k1 + 1, rt, _, (ld), sE, pN, qE, ⟨rfl, rfl, rfl, rfl, rfl, rfl, rfl, trivial⟩, rfl, (by rw [a0h]; exact tj), (by omega)⟩))
    omega
   have oJ := nD
   try simp only [BS] at oJ
   obtain ⟨lJ, p3⟩ := Sv.view (SR.sv kY mX)
   have ot := fL (p3 r)
   refine wR 2 [(3, .o (.slice (cA (lJ r) 0) (J.getD r default).length (cK (lJ r) 0)))] 36 41 [] [(39, (.slice (cA (lJ r) 0) (J.getD r default).length (cK (lJ r) 0))), (40, (iI ((J.getD r default).length : Int))), (41, (iI 0))] (vA (Sv.ix (j := (r : Int)) (SR.sv kY mX) (by omega) (by omega)) (vA (ql 25 0 (vL (p3 r) (by omega)) rfl rfl) trivial)) rfl fun _ => aj (fun (mm : Nat) f H' => ∃ (o2 : List Int) (p : Nat) (go : Fp) (F' : Fz), Fz.le tK F' ∧ HS (Base.of H []) F' H' [c3, c4, p8, a6, rD, a7, a8, go] R ∧ OS F' (.slice (some ⟨f9, 0, none⟩) 5 5) o2 go ∧ (∃ cs, go = [(f9, .cells cs none false)]) ∧ aD f [(0, (.pointer (some ⟨A, 0, none⟩))), (2, (.slice lU J.length l6)), (3, (iI (r : Int))), (4, (.pointer (some ⟨f9, 0, none⟩))), (19, (iI ((List.replicate c.regs.toNat (default : LocT)).length : Int))), (20, (iI (r : Int))), (39, (.slice (cA (lJ r) 0) (J.getD r default).length (cK (lJ r) 0))), (40, (iI ((J.getD r default).length : Int))), (41, (iI (p : Int)))] ∧ mm = ((J).getD r default).length - p ∧ (OwF sp ll r ((J).getD r default) p o2) ∧ (p ≤ ((J).getD r default).length)) _ ⟨o1, 0, la, _, fR, mX, mE, nl, ⟨rfl, rfl, rfl, rfl, rfl, rfl, rfl, rfl, rfl, trivial⟩, rfl, (by exact ow_zero tj), (by omega)⟩ ?_
   rintro wz xU mq ⟨o2, p, go, qk, kP, bk, ki, mF, pG, rfl, pL, hp⟩ qa
   refine ap _ pG (fun _ => ?_)
   clear pG
   replace al := al.mono kP
   replace ad := ad.mono kP
   replace a4 := a4.mono kP
   replace ot := ot.mono kP
   have uD := OS.len' ki
   have yb := pL.len
   refine ah 1 rfl (wT 2 [] 42 42 [] [(42, (.bool (decide ((p : Int) < ((J.getD r default).length : Int)))))] rfl fun _ => am 4 5 (v := (decide ((p : Int) < ((J.getD r default).length : Int)))) rfl rfl rfl rfl (fun nE => ?_) (fun nE => ?_))
   ·
    have oK := nE
    try simp only [BS] at oK
    have hxn : 0 ≤ ((J).getD r default).getD p 0 ∧ ((J).getD r default).getD p 0 < c.regs := by (have hm := (hrow.mem _).1 (iS (l := ((J).getD r default)) (q := p) (by omega)); have hh := (sy_lt vF hm.2).1; omega)
    have hid := (hlf.rng1 (j := (((J).getD r default).getD p 0).toNat)).2
    obtain ⟨vK, p4⟩ := Sv.view (SR.sv ot bk)
    have x3 := fI (p4 p)
    refine wR 2 [(1, .o (iI ((J.getD r default).getD p 0)))] 43 44 [7] [(7, (iI ((J.getD r default).getD p 0)))] (vA (Sv.ix (j := (p : Int)) (SR.sv ot bk) (by omega) (by omega)) (vA (ql 3 0 (vI (p4 p) (by omega)) rfl rfl) trivial)) rfl fun _ => wk_rcut 45 71 [] [(71, (.bool (((decide (((J.getD r default).getD p 0) < (r : Int))) && (!(sp.getD ((J.getD r default).getD p 0).toNat false))) && (decide ((o2.getD (ll.getD ((J.getD r default).getD p 0).toNat default).idx.toNat 0) < 0)))))] (fun H' => H' = mq) ?_ ?_
    ·
     refine aa (wm (iI ((J.getD r default).getD p 0)) rfl rfl rfl (wm (iI (r : Int)) rfl rfl rfl (aR (v := (.bool (decide (((J.getD r default).getD p 0) < (r : Int))))) (ap_cmp rfl rfl rfl rfl) rfl rfl (wm (.bool (decide (((J.getD r default).getD p 0) < (r : Int)))) rfl rfl rfl (wo_gsT (v := (decide (((J.getD r default).getD p 0) < (r : Int)))) rfl rfl (fun b9 => ?_) (fun b9 => ?_))))))
     ·
      have ol := b9
      try simp only [BS] at ol
      refine wm (.pointer (some ⟨A, 0, none⟩)) rfl rfl rfl (cr rfl b9 (aR (v := (.pointer (some ⟨A, 0, none⟩))) (cG rfl) rfl rfl (cr rfl b9 (aR (v := (.pointer (some ⟨A, 4, none⟩))) (bn rfl rfl) rfl rfl (cr rfl b9 ?_)))))
      refine aR (v := (.slice Z sp.length ag)) (aU (i := 4) rfl rfl (HS.hc bk (i := 4) rfl) rfl rfl) rfl rfl (cr rfl b9 (wm (iI ((J.getD r default).getD p 0)) rfl rfl rfl (cr rfl b9 (aR (v := (.pointer (some ⟨sB (.slice Z sp.length ag), sO (.slice Z sp.length ag) + ((J.getD r default).getD p 0).toNat * Rp.sz Bool, none⟩))) (bh (α := Bool) (j := ((J.getD r default).getD p 0)) rfl rfl rfl rfl (OS.sv al bk (i := 3) rfl) (by omega) (by omega)) rfl rfl (cr rfl b9 ?_)))))
      obtain ⟨vN, sd, rP⟩ := Sv.at (OS.sv al bk (i := 3) rfl) (aM (x := false) (show ((J.getD r default).getD p 0).toNat < sp.length from by omega))
      obtain rfl := sd
      refine aR (v := (.bool (sp.getD ((J.getD r default).getD p 0).toNat false))) (aU (i := 0) rfl rfl rP rfl rfl) rfl rfl (cr rfl b9 (aR (v := (.bool (!(sp.getD ((J.getD r default).getD p 0).toNat false)))) (ap_not rfl) rfl rfl (aR (v := (.bool (!(sp.getD ((J.getD r default).getD p 0).toNat false)))) (fc rfl b9 rfl) rfl rfl (wm (.bool (!(sp.getD ((J.getD r default).getD p 0).toNat false))) rfl rfl rfl (wo_gsT (v := (!(sp.getD ((J.getD r default).getD p 0).toNat false))) rfl rfl (fun ay => ?_) (fun ay => ?_))))))
      ·
       have om := ay
       try simp only [BS] at om
       refine wm (.pointer (some ⟨A, 0, none⟩)) rfl rfl rfl (cr rfl ay (aR (v := (.pointer (some ⟨A, 0, none⟩))) (cG rfl) rfl rfl (cr rfl ay (aR (v := (.pointer (some ⟨A, 5, none⟩))) (bn rfl rfl) rfl rfl (cr rfl ay ?_)))))
       refine aR (v := (.pointer (some ⟨A, 5, none⟩))) (bn rfl rfl) rfl rfl (cr rfl ay (aR (v := (.slice N ll.length T)) (aU (i := 5) rfl rfl (HS.hc bk (i := 4) rfl) rfl rfl) rfl rfl (cr rfl ay (wm (iI ((J.getD r default).getD p 0)) rfl rfl rfl (cr rfl ay ?_)))))
       refine aR (v := (.pointer (some ⟨sB (.slice N ll.length T), sO (.slice N ll.length T) + ((J.getD r default).getD p 0).toNat * Rp.sz LocT, none⟩))) (bh (α := LocT) (j := ((J.getD r default).getD p 0)) rfl rfl rfl rfl (OS.sv ad bk (i := 5) rfl) (by omega) (by omega)) rfl rfl (cr rfl ay (aR (v := (.pointer (some ⟨sB (.slice N ll.length T), sO (.slice N ll.length T) + ((J.getD r default).getD p 0).toNat * Rp.sz LocT + 1, none⟩))) (bn rfl rfl) rfl rfl (cr rfl ay ?_)))
       obtain ⟨vO, se, rQ⟩ := Sv.at (OS.sv ad bk (i := 5) rfl) (aM (x := default) (show ((J.getD r default).getD p 0).toNat < ll.length from by omega))
       obtain ⟨rfl, uT⟩ := se
       refine aR (v := (iI (ll.getD ((J.getD r default).getD p 0).toNat default).idx)) (aU (i := 1) rfl rfl rQ rfl rfl) rfl rfl (cr rfl ay (aR (v := (.pointer (some ⟨sB (.slice (some ⟨f9, 0, none⟩) 5 5), sO (.slice (some ⟨f9, 0, none⟩) 5 5) + (ll.getD ((J.getD r default).getD p 0).toNat default).idx.toNat * Rp.sz Int, none⟩))) (kF (α := Int) (j := (ll.getD ((J.getD r default).getD p 0).toNat default).idx) rfl rfl rfl rfl (by omega) (by omega)) rfl rfl (cr rfl ay ?_)))
       obtain ⟨vP, sf, rR⟩ := Sv.at (OS.sv ki bk (i := 7) rfl) (aM (x := (0 : Int)) (show (ll.getD ((J.getD r default).getD p 0).toNat default).idx.toNat < o2.length from by omega))
       obtain ⟨rfl, uU⟩ := sf
       refine aR (v := (iI (o2.getD (ll.getD ((J.getD r default).getD p 0).toNat default).idx.toNat 0))) (aU (i := 0) rfl rfl rR rfl rfl) rfl rfl (cr rfl ay (aR (v := (.bool (decide ((o2.getD (ll.getD ((J.getD r default).getD p 0).toNat default).idx.toNat 0) < 0)))) (ap_cmp rfl rfl rfl rfl) rfl rfl (aR (v := (.bool (decide ((o2.getD (ll.getD ((J.getD r default).getD p 0).toNat default).idx.toNat 0) < 0)))) (fc rfl ay rfl) rfl rfl (ee ?_))))
       exact aT ⟨rfl, rfl, (Lu rfl (Lu rfl (Lu rfl (Lu rfl (Lu rfl (Lu rfl (Lu rfl (Lu rfl (Lu rfl (Lu rfl (Lu rfl (Lu rfl (Lu rfl (Lu rfl (Lu rfl (Lu rfl (Lu rfl (Lu rfl (Lu rfl (Lu rfl (Lu rfl (Lu rfl (Lu rfl (Lu rfl (Lu rfl (Lu rfl (Lu rfl Lr))))))))))))))))))))))))))), (agC (congrArg Value.bool (show (decide ((o2.getD (ll.getD ((J.getD r default).getD p 0).toNat default).idx.toNat 0) < 0)) = (((decide (((J.getD r default).getD p 0) < (r : Int))) && (!(sp.getD ((J.getD r default).getD p 0).toNat false))) && (decide ((o2.getD (ll.getD ((J.getD r default).getD p 0).toNat default).idx.toNat 0) < 0))) by simp only [↓b9, ↓ay, BT])) agN)⟩
      have om := ay
      try simp only [BS] at om
      refine bo rfl ay rfl (bo rfl ay rfl (bo rfl ay rfl (bo rfl ay rfl (bo rfl ay rfl (bo rfl ay rfl ?_)))))
      refine bo rfl ay rfl (bo rfl ay rfl (bo rfl ay rfl (bo rfl ay rfl (bo rfl ay rfl (aR (v := (.bool false)) (fe rfl ay rfl) rfl rfl ?_)))))
      refine ee ?_
      exact aT ⟨rfl, rfl, (Lu rfl (Lu rfl (Lu rfl (Lu rfl (Lu rfl (Lu rfl (Lu rfl (Lu rfl (Lu rfl (Lu rfl (Lu rfl (Lu rfl (Lu rfl (Lu rfl (Lu rfl (Lu rfl (Lu rfl (Lu rfl (Lu rfl (Lu rfl (Lu rfl (Lu rfl (Lu rfl (Lu rfl (Lu rfl (Lu rfl (Lu rfl Lr))))))))))))))))))))))))))), (agC (congrArg Value.bool (show false = (((decide (((J.getD r default).getD p 0) < (r : Int))) && (!(sp.getD ((J.getD r default).getD p 0).toNat false))) && (decide ((o2.getD (ll.getD ((J.getD r default).getD p 0).toNat default).idx.toNat 0) < 0))) by simp only [↓b9, ↓ay, BT])) agN)⟩
     have ol := b9
     try simp only [BS] at ol
     refine bo rfl b9 rfl (bo rfl b9 rfl (bo rfl b9 rfl (bo rfl b9 rfl (bo rfl b9 rfl (bo rfl b9 rfl ?_)))))
     refine bo rfl b9 rfl (aR (v := (.bool false)) (fe rfl b9 rfl) rfl rfl (wm (.bool false) rfl rfl rfl (bo rfl rfl rfl (bo rfl rfl rfl (bo rfl rfl rfl ?_)))))
     refine bo rfl rfl rfl (bo rfl rfl rfl (bo rfl rfl rfl (bo rfl rfl rfl (bo rfl rfl rfl (bo rfl rfl rfl ?_)))))
     refine bo rfl rfl rfl (bo rfl rfl rfl (bo rfl rfl rfl (aR (v := (.bool false)) (fe rfl rfl rfl) rfl rfl (ee ?_))))
     exact aT ⟨rfl, rfl, (Lu rfl (Lu rfl (Lu rfl (Lu rfl (Lu rfl (Lu rfl (Lu rfl (Lu rfl (Lu rfl (Lu rfl (Lu rfl (Lu rfl (Lu rfl (Lu rfl (Lu rfl (Lu rfl (Lu rfl (Lu rfl (Lu rfl (Lu rfl (Lu rfl (Lu rfl (Lu rfl (Lu rfl (Lu rfl (Lu rfl (Lu rfl Lr))))))))))))))))))))))))))), (agC (congrArg Value.bool (show false = (((decide (((J.getD r default).getD p 0) < (r : Int))) && (!(sp.getD ((J.getD r default).getD p 0).toNat false))) && (decide ((o2.getD (ll.getD ((J.getD r default).getD p 0).toNat default).idx.toNat 0) < 0))) by simp only [↓b9, BT])) agN)⟩
    skip
    rintro x4 mq rfl
    refine ah 1 rfl (am 0 2 (v := (((decide (((J.getD r default).getD p 0) < (r : Int))) && (!(sp.getD ((J.getD r default).getD p 0).toNat false))) && (decide ((o2.getD (ll.getD ((J.getD r default).getD p 0).toNat default).idx.toNat 0) < 0)))) rfl rfl rfl rfl (fun nG => ?_) (fun nG => ?_))
    ·
     have nF := nG
     try simp only [BS] at nF
     refine aa (wm (.pointer (some ⟨A, 0, none⟩)) rfl rfl rfl (aR (v := (.pointer (some ⟨A, 0, none⟩))) (cG rfl) rfl rfl (aR (v := (.pointer (some ⟨A, 5, none⟩))) (bn rfl rfl) rfl rfl (aR (v := (.pointer (some ⟨A, 5, none⟩))) (bn rfl rfl) rfl rfl (aR (v := (.slice N ll.length T)) (aU (i := 5) rfl rfl (HS.hc bk (i := 4) rfl) rfl rfl) rfl rfl ?_)))))
     refine wm (iI ((J.getD r default).getD p 0)) rfl rfl rfl (aR (v := (.pointer (some ⟨sB (.slice N ll.length T), sO (.slice N ll.length T) + ((J.getD r default).getD p 0).toNat * Rp.sz LocT, none⟩))) (bh (α := LocT) (j := ((J.getD r default).getD p 0)) rfl rfl rfl rfl (OS.sv ad bk (i := 5) rfl) (by omega) (by omega)) rfl rfl (aR (v := (.pointer (some ⟨sB (.slice N ll.length T), sO (.slice N ll.length T) + ((J.getD r default).getD p 0).toNat * Rp.sz LocT + 1, none⟩))) (bn rfl rfl) rfl rfl ?_))
     obtain ⟨vQ, sg, rS⟩ := Sv.at (OS.sv ad bk (i := 5) rfl) (aM (x := default) (show ((J.getD r default).getD p 0).toNat < ll.length from by omega))
     obtain ⟨rfl, uV⟩ := sg
     refine aR (v := (iI (ll.getD ((J.getD r default).getD p 0).toNat default).idx)) (aU (i := 1) rfl rfl rS rfl rfl) rfl rfl (wm (iI ((J.getD r default).getD p 0)) rfl rfl rfl (aR (v := (.pointer (some ⟨sB (.slice (some ⟨f9, 0, none⟩) 5 5), sO (.slice (some ⟨f9, 0, none⟩) 5 5) + (ll.getD ((J.getD r default).getD p 0).toNat default).idx.toNat * Rp.sz Int, none⟩))) (kF (α := Int) (j := (ll.getD ((J.getD r default).getD p 0).toNat default).idx) rfl rfl rfl rfl (by omega) (by omega)) rfl rfl (aN (rs_stA (α := Int) (j := (ll.getD ((J.getD r default).getD p 0).toNat default).idx.toNat) (off := 0) (q := 7) ((J.getD r default).getD p 0) ki bk rfl rfl rfl rfl rfl rfl rfl rfl (aM (x := (0 : Int)) (by omega)) rfl (by rintro cs ⟨rfl, _⟩; exact ⟨a07 rfl, rfl, by omega⟩) mF) rfl ?_)))
     rintro _ xh ru ⟨pO, (sF : HS _ _ _ [_, _, _, _, _, _, _, ru] _), _, qF⟩
     have u4 := OS.len' pO
     refine ee (ah 2 rfl (wU 1 [] 41 41 [83] [(41, (iI ((p : Int) + 1)))] (vi (n := (p : Int) + 1) (by omega)) rfl fun _ => qa _ _ _ ?_ ⟨o2.set (ll.getD ((J.getD r default).getD p 0).toNat default).idx.toNat ((J.getD r default).getD p 0), p + 1, ru, _, (kP), sF, pO, qF, ⟨rfl, rfl, rfl, rfl, rfl, rfl, rfl, rfl, rfl, trivial⟩, rfl, (by exact ow_set pL (by omega) (by omega)), (by omega)⟩))
     omega
    have nF := nG
    try simp only [BS] at nF
    have hnc := nF
    refine wU 1 [] 41 41 [83] [(41, (iI ((p : Int) + 1)))] (vi (n := (p : Int) + 1) (by omega)) rfl fun _ => qa _ _ _ ?_ ⟨o2, p + 1, go, _, (kP), bk, ki, mF, ⟨rfl, rfl, rfl, rfl, rfl, rfl, rfl, rfl, rfl, trivial⟩, rfl, (by exact ow_no pL (fun h1 h2 => by have h3 := hnc; simp_all)), (by omega)⟩
    omega
   have oK := nE
   try simp only [BS] at oK
   refine wT 3 [] 1 0 [8] [(8, (iI 0))] rfl fun _ => aj (fun (mm : Nat) f H' => ∃ (k3 : Nat), H' = mq ∧ aD f [(0, (.pointer (some ⟨A, 0, none⟩))), (2, (.slice lU J.length l6)), (3, (iI (r : Int))), (4, (.pointer (some ⟨f9, 0, none⟩))), (8, (iI (k3 : Int))), (19, (iI ((List.replicate c.regs.toNat (default : LocT)).length : Int))), (20, (iI (r : Int)))] ∧ mm = 5 - k3 ∧ (k3 ≤ 5)) _ ⟨0, rfl, ⟨rfl, rfl, rfl, rfl, rfl, rfl, rfl, trivial⟩, rfl, (by omega)⟩ ?_
   rintro wA xV mq ⟨k3, rfl, pH, rfl, y4⟩ sU
   refine ap _ pH (fun _ => ?_)
   clear pH
   refine ah 2 rfl (wk_rcut 84 91 [] [(91, (.bool ((decide ((k3 : Int) < 5)) && (decide ((0 : Int) ≤ (o2.getD k3 0))))))] (fun H' => H' = mq) ?_ ?_)
   ·
    refine aa (wm (iI (k3 : Int)) rfl rfl rfl (aR (v := (.bool (decide ((k3 : Int) < 5)))) (ap_cmp rfl rfl rfl rfl) rfl rfl (wm (.bool (decide ((k3 : Int) < 5))) rfl rfl rfl (wo_gsT (v := (decide ((k3 : Int) < 5))) rfl rfl (fun hF => ?_) (fun hF => ?_)))))
    ·
     have oo := hF
     try simp only [BS] at oo
     refine wm (iI (k3 : Int)) rfl rfl rfl (cr rfl hF (aR (v := (.pointer (some ⟨sB (.slice (some ⟨f9, 0, none⟩) 5 5), sO (.slice (some ⟨f9, 0, none⟩) 5 5) + k3 * Rp.sz Int, none⟩))) (kF (α := Int) (j := (k3 : Int)) rfl rfl rfl rfl (by omega) (by omega)) rfl rfl (cr rfl hF ?_)))
     obtain ⟨vR, sj, rU⟩ := Sv.at (OS.sv ki bk (i := 7) rfl) (aM (x := (0 : Int)) (show k3 < o2.length from by omega))
     obtain ⟨rfl, uW⟩ := sj
     refine aR (v := (iI (o2.getD k3 0))) (aU (i := 0) rfl rfl rU rfl rfl) rfl rfl (cr rfl hF (aR (v := (.bool (decide ((0 : Int) ≤ (o2.getD k3 0))))) (ap_cmp rfl rfl rfl rfl) rfl rfl (aR (v := (.bool (decide ((0 : Int) ≤ (o2.getD k3 0))))) (fc rfl hF rfl) rfl rfl (ee ?_))))
     exact aT ⟨rfl, rfl, (Lu rfl (Lu rfl (Lu rfl (Lu rfl (Lu rfl (Lu rfl (Lu rfl (Lu rfl Lr)))))))), (agC (congrArg Value.bool (show (decide ((0 : Int) ≤ (o2.getD k3 0))) = ((decide ((k3 : Int) < 5)) && (decide ((0 : Int) ≤ (o2.getD k3 0)))) by simp only [↓hF, BT])) agN)⟩
    have oo := hF
    try simp only [BS] at oo
    refine bo rfl hF rfl (bo rfl hF rfl (bo rfl hF rfl (aR (v := (.bool false)) (fe rfl hF rfl) rfl rfl (ee ?_))))
    exact aT ⟨rfl, rfl, (Lu rfl (Lu rfl (Lu rfl (Lu rfl (Lu rfl (Lu rfl (Lu rfl (Lu rfl Lr)))))))), (agC (congrArg Value.bool (show false = ((decide ((k3 : Int) < 5)) && (decide ((0 : Int) ≤ (o2.getD k3 0)))) by simp only [↓hF, BT])) agN)⟩
   skip
   rintro x5 mq rfl
   refine ah 1 rfl (am 2 6 (v := ((decide ((k3 : Int) < 5)) && (decide ((0 : Int) ≤ (o2.getD k3 0))))) rfl rfl rfl rfl (fun nI => ?_) (fun nI => ?_))
   ·
    have nH := nI
    try simp only [BS] at nH
    refine wU 2 [] 92 93 [8] [(8, (iI ((k3 : Int) + 1)))] (vi (n := (k3 : Int) + 1) (by omega)) rfl fun _ => sU _ _ _ ?_ ⟨k3 + 1, rfl, ⟨rfl, rfl, rfl, rfl, rfl, rfl, rfl, trivial⟩, rfl, (by omega)⟩
    omega
   have nH := nI
   try simp only [BS] at nH
   have u0 : k3 < 5 → ¬ (0 ≤ o2.getD k3 0) := by (have h9 := nH; intro h7 h6; omega)
   refine wT 1 [] 94 95 [] [(95, (.bool (decide ((k3 : Int) < 5))))] rfl fun _ => am 1 1 (v := (decide ((k3 : Int) < 5))) rfl rfl rfl rfl (fun nJ => ?_) (fun nJ => ?_)
   ·
    have oL := nJ
    try simp only [BS] at oL
    have hkf : o2.getD k3 0 < 0 := by (have h8 := u0 (by omega); omega)
    refine aa (wRo 9 0 [(4, .o (.slice N ll.length T))] 96 104 [] [(103, (.agg ⟨[(.bool false), (iI (k3 : Int))]⟩)), (104, (.pointer (some ⟨sB (.slice N ll.length T), sO (.slice N ll.length T) + r * Rp.sz LocT, none⟩)))] (vA (ql 37 5 (HS.hc bk (i := 4) rfl) rfl rfl) (vA (Sv.ix (j := (r : Int)) (OS.sv ad bk (i := 5) rfl) (by omega) (by omega)) trivial)) rfl fun _ => aN (db (α := LocT) (j := r) (off := 0) (q := 5) (⟨false, (k3 : Int)⟩ : LocT) ad bk rfl rfl rfl rfl rfl rfl rfl rfl (aM (x := default) (by omega)) rfl (j1 (F := qk) (Y := (⟨false, (k3 : Int)⟩ : LocT)) (cl := [(.bool false), (iI (k3 : Int))]) ⟨rfl, by (dsimp only; omega)⟩)) rfl ?_)
    rintro _ xi rv ⟨pP, (sG : HS _ _ _ [_, _, _, _, _, rv, _, go] _), _⟩
    have u5 := OS.len' pP
    refine ae 4 rfl (wU 1 [] 20 20 [112] [(20, (iI ((r : Int) + 1)))] (vi (n := (r : Int) + 1) (by omega)) rfl fun _ => ob _ _ _ ?_ ⟨sp, ll.set r (⟨false, (k3 : Int)⟩ : LocT), sl, r + 1, a6, Z, ag, rv, N, T, a8, bz, b2, _, (fT (fT (l1) ld) kP), (by simpa only [a0h] using (HS.sub sG (a03 _ _))), al, (OS.norm pP), a4, ⟨rfl, rfl, rfl, rfl, trivial⟩, rfl, (by exact nk), (by (simp only [a0h]; exact hll)), (by exact hlf.set (by omega) ⟨rfl, by (dsimp only; omega), by (dsimp only; omega)⟩ (ow_end pL (by omega) hrow hlf hkf)), (by omega)⟩)
    omega
   have oL := nJ
   try simp only [BS] at oL
   refine aa (wTo 2 0 [] 105 106 [] [(105, (.pointer (some ⟨A, 0, none⟩))), (106, (iI (r : Int)))] rfl fun _ => aG (bt (α := Int) (ps := []) (cells := []) ([] : List Int) bk rfl rfl rfl (by kernel_rfl) rfl rfl) rfl rfl ?_)
   rintro _ xj uA ⟨xA, yi, rfl, r7, (n6 : HS _ _ _ [_, _, _, _, _, _, _, go, uA] _), _⟩
   refine aG (rs_cutA (α := Int) (i := 0) (j := 5) ki n6 (q := 7) rfl rfl rfl rfl optN0 optN0 (by omega) (by omega) mF) rfl rfl ?_
   rintro _ _ _ ⟨xB, yj, rfl, mS, r9⟩
   simp only at mS; replace mS := mS.symm; subst mS
   refine aG (bw (α := Int) (q := 8) r7 n6 rfl rfl rfl (OS.sv r9 n6 (i := 7) rfl) rfl rfl rfl rfl rfl rfl rfl (by (simp only [a05, a0a, a0e, a0g, a0o]; omega))) rfl rfl ?_
   rintro _ xk rx ⟨mr, mB, rfl, nS, (sH : HS _ _ _ [_, _, _, _, _, _, _, _, rx] _), _⟩
   have nS : OS qk (.slice mr ((o2.take 5).drop 0).length mB) ((o2.take 5).drop 0) rx := nS
   let pi : Value := (.agg ⟨[(iI (r : Int)), (iI 3), (iI 0), (iI 0), (.slice mr ((o2.take 5).drop 0).length mB)]⟩)
   refine wTo 1 5 [] 110 110 [] [(110, pi)] rfl fun _ => ?_
   obtain ⟨tL, mR, n7, sk, wk⟩ := OS.frz nS sH (i := 8) rfl
   have n7 : HS _ _ _ [_, _, _, _, _, _, _, _, []] _ := n7
   replace al := al.mono mR
   replace ad := ad.mono mR
   replace a4 := a4.mono mR
   refine aA (R := fun v H' => ∃ (s1 : List Bool) (s2 : List SpiT) (kd : Fp) (it : Option Addr) (jc : Nat) (kg : Fp) (iv : Option Addr) (jq : Nat) (F' : Fz), Fz.le tL F' ∧ HS (Base.of H []) F' H' [c3, c4, p8, kd, [(A, .cells [(iI c.params), (iI c.regs), (.slice U c.blocks.length V), (.slice an E.length ar), (.slice it s1.length jc), (.slice N ll.length T), (.slice iv s2.length jq), (iI 0)] none false)], a7, kg, go, []] R ∧ OS F' (.slice it s1.length jc) s1 kd ∧ OS F' (.slice iv s2.length jq) s2 kg ∧ v = .tuple #[] ∧ (s1 = (sp).set ((r : Int)).toNat true) ∧ (s2.length = (sl).length + 1)) (aq rfl rfl rfl) rfl rfl ?_ ?_
   ·
    refine aH Tryd.func102 rfl rfl (ah 1 rfl (aa (aG (bG n7 rfl rfl) rfl rfl ?_)))
    rintro _ xm _ ⟨nq, rfl, (l5 : HS _ _ _ [_, _, _, _, _, _, _, _, _, [(nq, .cells [(iI (r : Int)), (iI 3), (iI 0), (iI 0), (.slice mr ((o2.take 5).drop 0).length mB)] none false)]] _), _⟩
    refine ae 2 rfl (aS rfl (fm (.pointer (some ⟨A, 0, none⟩)) rfl rfl rfl (wfv (v := (.pointer (some ⟨A, 0, none⟩))) (cG rfl) (wfv (v := (.pointer (some ⟨A, 4, none⟩))) (bn rfl rfl) (aF (v := (.slice Z sp.length ag)) (id := .l A) (aU (i := 4) rfl rfl (HS.hc l5.log0 (i := 4) rfl) rfl rfl) rfl rfl (bx rfl) (kb rfl) ?_)))))
    refine wfv (v := (.pointer (some ⟨nq, 0, none⟩))) (bn rfl rfl) (aF (v := (iI (r : Int))) (id := .l nq) (aU (i := 0) rfl rfl (HS.hc l5.log0 (i := 9) rfl) rfl rfl) rfl rfl (bx rfl) (kb rfl) (wfv (v := (.pointer (some ⟨sB (.slice Z sp.length ag), sO (.slice Z sp.length ag) + r * Rp.sz Bool, none⟩))) (bh (α := Bool) (j := (r : Int)) rfl rfl rfl rfl (OS.sv al l5.log0 (i := 3) rfl) (by omega) (by omega)) (eN (id := .x (a6.map Prod.fst)) (db (α := Bool) (j := r) (off := 0) (q := 3) true al l5.log0 rfl rfl rfl rfl rfl rfl rfl rfl (aM (x := false) (by omega)) rfl (by rintro cs rfl; exact ⟨a07 rfl, rfl⟩)) rfl (by rintro _ _ o9 ⟨nT, _, hwr⟩; exact bQ rfl rfl (Wr.did hwr)) (kb rfl) ?_)))
    rintro _ tW o9 ⟨nT, ih, _⟩ s7 qT
    replace ih := HS.lg ih l5 qT
    generalize ({ tW with log := s7 } : Heap) = vp at ih ⊢
    have ih : HS _ _ _ [_, _, _, o9, _, _, _, _, _, _] _ := ih
    have u6 := OS.len' nT
    refine bT (ah 1 rfl (aS rfl (fm (.pointer (some ⟨A, 0, none⟩)) rfl rfl rfl (fm (.pointer (some ⟨A, 0, none⟩)) rfl rfl rfl (wfv (v := (.pointer (some ⟨A, 0, none⟩))) (cG rfl) ?_)))))
    refine wfv (v := (.pointer (some ⟨A, 5, none⟩))) (bn rfl rfl) (wfv (v := (.pointer (some ⟨A, 6, none⟩))) (bn rfl rfl) (aF (v := (.slice bz sl.length b2)) (id := .l A) (aU (i := 6) rfl rfl (HS.hc ih.log0 (i := 4) rfl) rfl rfl) rfl rfl (bx rfl) (kb rfl) (aF (v := pi) (id := .l nq) (eL (i := 0) rfl rfl rfl (HS.hc ih.log0 (i := 9) rfl) rfl rfl rfl) rfl rfl (bx rfl) (kb rfl) (bM (id := .a) (bt (α := SpiT) (ps := [(0, pi)]) (cells := [(iI (r : Int)), (iI 3), (iI 0), (iI 0), (.slice mr ((o2.take 5).drop 0).length mB)]) ([(⟨(r : Int), 3, 0, 0, ((o2.take 5).drop 0)⟩ : SpiT)] : List SpiT) ih.log0 rfl rfl rfl (by kernel_rfl) ⟨[(iI (r : Int)), (iI 3), (iI 0), (iI 0), (.slice mr ((o2.take 5).drop 0).length mB)], [], rfl, ⟨mr, mB, rfl, by (dsimp only; omega), by (dsimp only; omega), by (dsimp only; omega), by (dsimp only; omega), sk⟩, rfl⟩ rfl) rfl rfl (fun _ _ _ _ => gZ rfl rfl rfl) (kb rfl) ?_))))
    rintro _ tX uB ⟨xC, yk, rfl, r8, kV, _⟩ s8 qU
    replace kV := HS.lg kV ih qU
    generalize ({ tX with log := s8 } : Heap) = vr at kV ⊢
    have kV : HS _ _ _ [_, _, _, _, _, _, _, _, _, _, uB] _ := kV
    refine bM (id := .x (a8.map Prod.fst)) (bw (α := SpiT) (q := 6) a4 kV.log0 rfl rfl rfl (OS.sv r8 kV.log0 (i := 10) rfl) rfl rfl rfl rfl rfl rfl rfl (by (simp only [a05, a0a, a0e, a0g, a0o]; omega))) rfl rfl (by rintro _ _ pb ⟨ox, o4, rfl, pQ, _, hwr⟩; exact bQ rfl rfl (Wr.did hwr)) (kb rfl) ?_
    rintro _ tY pb ⟨ox, o4, rfl, pQ, lm, _⟩ s9 qV
    replace lm := HS.lg lm kV qV
    generalize ({ tY with log := s9 } : Heap) = vs at lm ⊢
    have lm : HS _ _ _ [_, _, _, _, _, _, pb, _, _, _, _] _ := lm
    refine wfv (v := (.pointer (some ⟨A, 0, none⟩))) (cG rfl) (wfv (v := (.pointer (some ⟨A, 5, none⟩))) (bn rfl rfl) (wfv (v := (.pointer (some ⟨A, 6, none⟩))) (bn rfl rfl) (eN (id := .x [A]) (aI (q := 4) lm.log0 rfl rfl rfl rfl rfl rfl rfl rfl rfl) rfl (by rintro _ _ _ ⟨_, hwr⟩; exact bQ rfl rfl (Wr.did hwr)) (kb rfl) ?_)))
    rintro _ tZ _ ⟨lP, _⟩ ta qW
    replace lP := HS.lg lP lm qW
    generalize ({ tZ with log := ta } : Heap) = vt at lP ⊢
    have lP : HS _ _ _ [_, _, _, _, [(A, .cells [(iI c.params), (iI c.regs), (.slice U c.blocks.length V), (.slice an E.length ar), (.slice Z sp.length ag), (.slice N ll.length T), (.slice ox (sl ++ ([(⟨(r : Int), 3, 0, 0, ((o2.take 5).drop 0)⟩ : SpiT)] : List SpiT)).length o4), (iI 0)] none false)], _, _, _, _, _, _] _ := lP
    refine bT (aT ⟨.inl rfl, _, rfl, sp.set r true, sl ++ ([(⟨(r : Int), 3, 0, 0, ((o2.take 5).drop 0)⟩ : SpiT)] : List SpiT), o9, Z, ag, pb, ox, o4, _, fR, (by simpa only [a0h] using (HS.sub lP (a03 _ _))), (OS.norm nT), pQ, rfl, (by rfl), (by simp)⟩)
   rintro _ xl ⟨s1, s2, kd, it, jc, kg, iv, jq, wK, pm, sI, oi, oj, rfl, mI, ti⟩
   replace ad := ad.mono pm
   refine ae 2 rfl (wU 1 [] 20 20 [112] [(20, (iI ((r : Int) + 1)))] (vi (n := (r : Int) + 1) (by omega)) rfl fun _ => ob _ _ _ ?_ ⟨s1, ll, s2, r + 1, kd, it, jc, a7, N, T, kg, iv, jq, _, (fT (fT (fT (fT (l1) ld) kP) mR) pm), (HS.sub sI (a03 _ _)), oi, ad, oj, ⟨rfl, rfl, rfl, rfl, trivial⟩, rfl, (by (rw [mI]; exact nk.set (by omega) hsr (by omega))), (by exact hll), (by (rw [mI]; exact hlf.skip (fun _ h => set_false h) (j2.2 (.inl ⟨by omega, by omega⟩)))), (by omega)⟩)
   omega
  have oI := nB
  try simp only [BS] at oI
  refine aT ⟨.inl rfl, _, rfl, sp, ll, sl, a6, Z, ag, a7, N, T, a8, bz, b2, _, (fT (mQ) l1), lO, al, ad, a4, rfl, (by exact nk), (by exact hll), (by rw [show c.regs.toNat = r by omega]; exact hlf)⟩
 rintro _ xb ⟨spC, lc, slC, hB, bl, b0, hC, e0, e6, hD, a0, a1, tH, rM, pT, i2, oh, hj, rfl, hsC, hlc, hlC⟩
 refine ae 2 rfl (aa (wUo 6 0 [(2, .o (iI c.params))] 42 47 [] [(44, (iI c.params)), (47, (.pointer (some ⟨A, 7, none⟩)))] (ql 3 0 (HS.hc pT (i := 0) rfl) rfl rfl) rfl fun _ => aN (aI (q := 4) pT rfl rfl rfl rfl rfl rfl rfl rfl rfl) rfl ?_))
 rintro _ xn _ ⟨(pU : HS _ _ _ [c3, c4, p8, hB, [(A, .cells [(iI c.params), (iI c.regs), (.slice U c.blocks.length V), (.slice an E.length ar), (.slice bl spC.length b0), (.slice e0 lc.length e6), (.slice a0 slC.length a1), (iI c.params)] none false)], hC, hD] _), _⟩
 refine ae 3 rfl (wU 2 [(4, .o (.slice e0 lc.length e6))] 48 54 [] [(53, (iI (lc.length : Int))), (54, (iI 0))] (ql 37 5 (HS.hc pU (i := 4) rfl) rfl rfl) rfl fun _ => aj (fun (mm : Nat) f H' => ∃ (lf : List LocT) (sz : Int) (rr : Nat) (f1 : Fp) (aw : Option Addr) (ax : Nat) (F' : Fz), Fz.le tH F' ∧ HS (Base.of H []) F' H' [c3, c4, p8, hB, [(A, .cells [(iI c.params), (iI c.regs), (.slice U c.blocks.length V), (.slice an E.length ar), (.slice bl spC.length b0), (.slice aw lf.length ax), (.slice a0 slC.length a1), (iI sz)] none false)], f1, hD] R ∧ OS F' (.slice aw lf.length ax) lf f1 ∧ aD f [(2, (.pointer (some ⟨b3, 0, none⟩))), (4, (.pointer (some ⟨A, 0, none⟩))), (53, (iI (lc.length : Int))), (54, (iI (rr : Int)))] ∧ mm = c.regs.toNat - rr ∧ (FinF c spC lc lf rr sz) ∧ (rr ≤ c.regs.toNat) ∧ (in64 sz)) _ ⟨lc, c.params, 0, hC, e0, e6, _, fR, pU, oh, ⟨rfl, rfl, rfl, rfl, trivial⟩, rfl, (by exact fin_zero hlc), (by omega), (by omega)⟩ ?_)
 rintro wB xW xo ⟨lf, sz, rr, f1, aw, ax, tM, l2, f8, i3, pI, rfl, hff, hrr, rsz⟩ qb
 refine ap _ pI (fun _ => ?_)
 clear pI
 replace i2 := i2.mono l2
 replace hj := hj.mono l2
 have hffl := hff.len
 have hspc := hsC.len
 have hlim := fin_lim hff hpr.1 hspc
 refine ah 1 rfl (wT 2 [] 55 55 [] [(55, (.bool (decide ((rr : Int) < (lc.length : Int)))))] rfl fun _ => am 4 6 (v := (decide ((rr : Int) < (lc.length : Int)))) rfl rfl rfl rfl (fun nK => ?_) (fun nK => ?_))
 ·
  have oM := nK
  try simp only [BS] at oM
  refine wT 2 [] 56 56 [5] [(5, (iI (rr : Int)))] rfl fun _ => ?_
  obtain ⟨vM, sP⟩ := Sv.view (OS.sv i2 f8 (i := 3) rfl)
  refine wR 1 [(3, .o (.slice bl spC.length b0)), (6, .o (.bool (spC.getD rr false)))] 57 63 [] [(63, (.bool (spC.getD rr false)))] (vA (ql 53 4 (HS.hc f8 (i := 4) rfl) rfl rfl) (vA (Sv.ix (j := (rr : Int)) (OS.sv i2 f8 (i := 3) rfl) (by omega) (by omega)) (vA (ql 4 0 (vB (sP rr) (by omega)) rfl rfl) trivial))) rfl fun _ => am 1 2 (v := (spC.getD rr false)) rfl rfl rfl rfl (fun nL => ?_) (fun nL => ?_)
  ·
   have oN := nL
   try simp only [BS] at oN
   refine aS rfl (fm (.pointer (some ⟨A, 0, none⟩)) rfl rfl rfl (wfv (v := (.pointer (some ⟨A, 0, none⟩))) (cG rfl) (wfv (v := (.pointer (some ⟨A, 5, none⟩))) (bn rfl rfl) (wfv (v := (.pointer (some ⟨A, 5, none⟩))) (bn rfl rfl) (aF (v := (.slice aw lf.length ax)) (id := .l A) (aU (i := 5) rfl rfl (HS.hc f8.log0 (i := 4) rfl) rfl rfl) rfl rfl (bx rfl) (kb rfl) ?_)))))
   refine fm (iI (rr : Int)) rfl rfl rfl (fm (.pointer (some ⟨A, 0, none⟩)) rfl rfl rfl (wfv (v := (.pointer (some ⟨A, 0, none⟩))) (cG rfl) (wfv (v := (.pointer (some ⟨A, 5, none⟩))) (bn rfl rfl) (wfv (v := (.pointer (some ⟨A, 7, none⟩))) (bn rfl rfl) (aF (v := (iI sz)) (id := .l A) (aU (i := 7) rfl rfl (HS.hc f8.log0 (i := 4) rfl) rfl rfl) rfl rfl (bx rfl) (kb rfl) ?_)))))
   refine wfv (v := (.agg ⟨[(.bool true), (iI sz)]⟩)) (ap_bld rfl rfl (by kernel_rfl)) (wfv (v := (.pointer (some ⟨sB (.slice aw lf.length ax), sO (.slice aw lf.length ax) + rr * Rp.sz LocT, none⟩))) (bh (α := LocT) (j := (rr : Int)) rfl rfl rfl rfl (OS.sv i3 f8.log0 (i := 5) rfl) (by omega) (by omega)) (eN (id := .x (f1.map Prod.fst)) (db (α := LocT) (j := rr) (off := 0) (q := 5) (⟨true, sz⟩ : LocT) i3 f8.log0 rfl rfl rfl rfl rfl rfl rfl rfl (aM (x := default) (by omega)) rfl (j1 (F := tM) (Y := (⟨true, sz⟩ : LocT)) (cl := [(.bool true), (iI sz)]) ⟨rfl, by (dsimp only; omega)⟩)) rfl (by rintro _ _ pc ⟨nU, _, hwr⟩; exact bQ rfl rfl (Wr.did hwr)) (kb rfl) ?_))
   rintro _ t0 pc ⟨nU, ln, _⟩ tc qX
   replace ln := HS.lg ln f8 qX
   generalize ({ t0 with log := tc } : Heap) = vv at ln ⊢
   have ln : HS _ _ _ [_, _, _, _, [(A, .cells [(iI c.params), (iI c.regs), (.slice U c.blocks.length V), (.slice an E.length ar), (.slice bl spC.length b0), (.slice aw lf.length ax), (.slice a0 slC.length a1), (iI sz)] none false)], pc, _] _ := ln
   have u7 := OS.len' nU
   refine bT (ah 1 rfl (aa (wRo 9 0 [(4, .o (iI sz))] 77 85 [] [(82, (iI (sz + 1))), (85, (.pointer (some ⟨A, 7, none⟩)))] (vA (ql 3 7 (HS.hc ln (i := 4) rfl) rfl rfl) (vA (vi (n := sz + 1) (by omega)) trivial)) rfl fun _ => aN (aI (q := 4) ln rfl rfl rfl rfl rfl rfl rfl rfl rfl) rfl ?_)))
   rintro _ xp _ ⟨(sJ : HS _ _ _ [_, _, _, _, [(A, .cells [(iI c.params), (iI c.regs), (.slice U c.blocks.length V), (.slice an E.length ar), (.slice bl spC.length b0), (.slice aw lf.length ax), (.slice a0 slC.length a1), (iI (sz + 1))] none false)], _, _] _), _⟩
   refine ae 2 rfl (wU 1 [] 54 54 [86] [(54, (iI ((rr : Int) + 1)))] (vi (n := (rr : Int) + 1) (by omega)) rfl fun _ => qb _ _ _ ?_ ⟨lf.set rr (⟨true, sz⟩ : LocT), sz + 1, rr + 1, pc, aw, ax, _, (l2), (by simpa only [a0h] using sJ), (OS.norm nU), ⟨rfl, rfl, rfl, rfl, trivial⟩, rfl, (by exact fin_yes hff (by omega) hspc (by assumption)), (by omega), (by omega)⟩)
   omega
  have oN := nL
  try simp only [BS] at oN
  refine wU 1 [] 54 54 [86] [(54, (iI ((rr : Int) + 1)))] (vi (n := (rr : Int) + 1) (by omega)) rfl fun _ => qb _ _ _ ?_ ⟨lf, sz, rr + 1, f1, aw, ax, _, (l2), f8, i3, ⟨rfl, rfl, rfl, rfl, trivial⟩, rfl, (by exact fin_no hff (by omega) (by assumption)), (by omega), (by assumption)⟩
  omega
 have oM := nK
 try simp only [BS] at oM
 let rE : Value := (.agg ⟨[(.slice aw lf.length ax), (.slice a0 slC.length a1), (iI sz)]⟩)
 refine wU 1 [(4, .o (iI sz))] 87 92 [] [(92, (.bool (decide ((3000 : Int) < sz))))] (ql 3 7 (HS.hc f8 (i := 4) rfl) rfl rfl) rfl fun _ => wk_iff 2 (v := (decide ((3000 : Int) < sz))) rfl (by simp; omega) rfl rfl (aa (wUo 4 0 [(3, .o rE)] 94 97 [] [(97, rE)] (qn 40 5 3 (HS.hc f8 (i := 4) rfl) rfl rfl rfl rfl) rfl fun _ => aN (aI (q := 1) f8 rfl rfl rfl rfl rfl rfl rfl rfl rfl) rfl ?_))
 rintro _ xq _ ⟨(pV : HS _ _ _ [_, [(b3, .cells [(.slice aw lf.length ax), (.slice a0 slC.length a1), (iI sz)] none false)], _, _, [(A, .cells [(iI c.params), (iI c.regs), (.slice U c.blocks.length V), (.slice an E.length ar), (.slice bl spC.length b0), (.slice aw lf.length ax), (.slice a0 slC.length a1), (iI sz)] none false)], f1, _] _), _⟩
 refine wa (iI 0) rfl rfl rfl (ae 1 rfl ?_)
 obtain ⟨wL, pn, n8, nV, wl⟩ := OS.frz i3 pV (i := 5) rfl
 have n8 : HS _ _ _ [_, _, _, _, _, [], _] _ := n8
 replace hj := hj.mono pn
 obtain ⟨wM, po, n9, sm, wn⟩ := OS.frz hj n8 (i := 6) rfl
 have n9 : HS _ _ _ [_, _, _, _, _, _, []] _ := n9
 replace nV := nV.mono po
 refine ak ⟨.inr rfl, _, (rC rfl (ldVN rfl rfl (HS.hc pV (i := 1) rfl) rfl) (rT rfl rN)), (⟨lf, slC, sz⟩ : AllT), aw, ax, a0, a1, 0, _, (fT (fT (fT (fT (fT (fT (fT (pq) pr) m9) mM) rM) l2) pn) po), (HS.forget n9), rfl, (by (dsimp only; omega)), nV, sm, (by exact fun ⟨r, h⟩ => absurd h (hz r)), (by exact fun _ => ⟨rfl, fin_all hff hspc (by omega) hlC⟩)⟩
end Go.Proofs.YtknafdcgpaejlaaDoor.ng
