/-
 Expansion of virtual instructions: the program and the reference, each by a symbolic run. No condition but bounds on lengths.
-/
import Derived.Test.YtknafdcgpaejlaaDoorZXMA
noncomputable section
namespace Go.Proofs.YtknafdcgpaejlaaDoor.xa
open Go.R
set_option maxRecDepth 10000
set_option linter.unusedVariables false
set_option linter.unusedSimpArgs false
structure LocT where
 inS : Bool
 idx : Int
 deriving Inhabited, DecidableEq
instance : Rp LocT where
 sz := 2
 rep F cs x := cs = [.bool x.inS, .int .i64 x.idx] ∧ in64 x.idx
 len := by rintro F cs x ⟨rfl, _⟩; rfl
 one := by rintro F cs x ⟨rfl, _⟩; rfl
 mono := by intro F F' cs x _ h; exact h
theorem LocT.vw {F : Fz} {get : Nat → Option AObj} {v : Value} {cf : Nat → List Value} {j : Nat} {l : List LocT} (h : VW F get v l cf j) (hj : j < l.length) : HC get (sB v) (sO v + j * Rp.sz LocT) [.bool (l.getD j default).inS, .int .i64 (l.getD j default).idx] := by
 obtain ⟨⟨A, _⟩, z⟩ := h.1 default hj
 rw [show cf j = _ from A] at z; exact z
theorem LocT.fx {F : Fz} {get : Nat → Option AObj} {v : Value} {cf : Nat → List Value} {j : Nat} {l : List LocT} (h : VW F get v l cf j) : in64 (l.getD j default).idx := by
 rcases Nat.lt_or_ge j l.length with hj | hj
 ·
  obtain ⟨⟨z, h0⟩, _⟩ := h.1 default hj
  exact h0
 rw [cU hj]; decide
structure SpiT where
 reg : Int
 why : Int
 blk : Int
 idx : Int
 oth : (List Int)
 deriving Inhabited, DecidableEq
instance : Rp SpiT where
 sz := 5
 rep F cs x := ∃ a4 k4, cs = [.int .i64 x.reg, .int .i64 x.why, .int .i64 x.blk, .int .i64 x.idx, .slice a4 x.oth.length k4] ∧ in64 x.reg ∧ in64 x.why ∧ in64 x.blk ∧ in64 x.idx ∧ SR F (.slice a4 x.oth.length k4) x.oth
 len := by rintro F cs x ⟨a4, k4, rfl, _⟩; rfl
 one := by rintro F cs x ⟨a4, k4, rfl, _⟩; rfl
 mono := by rintro F F' cs x hF ⟨a4, k4, rfl, h0, h1, h2, h3, h4⟩; exact ⟨a4, k4, rfl, h0, h1, h2, h3, h4.mono hF⟩
structure AllT where
 locs : (List LocT)
 spi : (List SpiT)
 slots : Int
 deriving Inhabited, DecidableEq
instance : Rp AllT where
 sz := 3
 rep F cs x := ∃ a0 k0 a1 k1, cs = [.slice a0 x.locs.length k0, .slice a1 x.spi.length k1, .int .i64 x.slots] ∧ in64 x.slots ∧ SR F (.slice a0 x.locs.length k0) x.locs ∧ SR F (.slice a1 x.spi.length k1) x.spi
 len := by rintro F cs x ⟨a0, k0, a1, k1, rfl, _⟩; rfl
 one := by rintro F cs x ⟨a0, k0, a1, k1, rfl, _⟩; rfl
 mono := by rintro F F' cs x hF ⟨a0, k0, a1, k1, rfl, h0, h1, h2⟩; exact ⟨a0, k0, a1, k1, rfl, h0, h1.mono hF, h2.mono hF⟩
theorem AllT.vw {F : Fz} {get : Nat → Option AObj} {v : Value} {cf : Nat → List Value} {j : Nat} {l : List AllT} (h : VW F get v l cf j) (hj : j < l.length) : HC get (sB v) (sO v + j * Rp.sz AllT) [.slice (cA (cf j) 0) (l.getD j default).locs.length (cK (cf j) 0), .slice (cA (cf j) 1) (l.getD j default).spi.length (cK (cf j) 1), .int .i64 (l.getD j default).slots] := by
 obtain ⟨⟨E, N, J, k1, A, _⟩, z⟩ := h.1 default hj
 rw [show cf j = _ from A] at z ⊢; exact z
theorem AllT.fx {F : Fz} {get : Nat → Option AObj} {v : Value} {cf : Nat → List Value} {j : Nat} {l : List AllT} (h : VW F get v l cf j) : in64 (l.getD j default).slots ∧ SR F (.slice (cA (cf j) 0) (l.getD j default).locs.length (cK (cf j) 0)) (l.getD j default).locs ∧ SR F (.slice (cA (cf j) 1) (l.getD j default).spi.length (cK (cf j) 1)) (l.getD j default).spi := by
 rcases Nat.lt_or_ge j l.length with hj | hj
 ·
  obtain ⟨⟨J, T, N, k1, z, h0, A, E⟩, _⟩ := h.1 default hj
  rw [show cf j = _ from z]; exact ⟨h0, A, E⟩
 rw [cU hj, h.2 hj]; exact ⟨by decide, SR.nil, SR.nil⟩
open m1 m2 m3 m4 m5 m6 ma
def eS (to : Int) (b : Bool) (x : Int) : List InsT := if b = true then [⟨36, to, 0, 0, x⟩] else if x = to then [] else [⟨10, to, x, 0, 0⟩]
def savV (b : Bool) (x : Int) : List InsT := if b = true then [⟨37, 0, 0, 0, x⟩] else if x = 0 then [] else [⟨10, x, 0, 0, 0⟩]
def fS (b : Bool) (x s : Int) : Int := if b = true then s else x
abbrev atV (l : List LocT) (n : Int) : LocT := l.getD n.toNat default
def iV (l : List LocT) (a : List Int) : Nat → List InsT
 | 0 => []
 | k + 1 => iV l a k ++ eS (k : Int) (atV l (a.getD k 0)).inS (atV l (a.getD k 0)).idx
def rngV (v : VInT) (n : Nat) : Prop := ∀ x ∈ aI v ++ ak v, 0 ≤ x ∧ x < (n : Int)
instance {v : VInT} {n : Nat} : Decidable (rngV v n) := inferInstanceAs (Decidable (∀ x ∈ _, _))
def opV (i : InsT) : Int := if i.op = 38 then 36 else if i.op = 13 ∧ (i.n < -4194304 ∨ 4194304 ≤ i.n) then 14 else i.op
def slA (f : InfT) (i : InsT) (l : List LocT) : LocT := if f.ra = true ∨ f.wa = true then atV l i.a else default
def oA (f : InfT) (i : InsT) (l : List LocT) : Int := if f.ra = true ∨ f.wa = true then fS (atV l i.a).inS (atV l i.a).idx 5 else 0
def oB (f : InfT) (i : InsT) (l : List LocT) : Int := if f.rb = true then fS (atV l i.b).inS (atV l i.b).idx 6 else 0
def oC (f : InfT) (i : InsT) (l : List LocT) : Int := if f.form = 4 then fS (atV l i.c).inS (atV l i.c).idx 7 else 0
def oN (f : InfT) (i : InsT) : Int := if f.form = 5 ∨ f.form = 7 then i.n else 0
def aV (f : InfT) (i : InsT) (l : List LocT) : List InsT := if f.ra = true ∧ (atV l i.a).inS = true then [⟨36, 5, 0, 0, (atV l i.a).idx⟩] else []
def bV (f : InfT) (i : InsT) (l : List LocT) : List InsT := if f.rb = true ∧ (atV l i.b).inS = true then [⟨36, 6, 0, 0, (atV l i.b).idx⟩] else []
def cV (f : InfT) (i : InsT) (l : List LocT) : List InsT := if f.form = 4 ∧ (atV l i.c).inS = true then [⟨36, 7, 0, 0, (atV l i.c).idx⟩] else []
def wV (f : InfT) (i : InsT) (l : List LocT) : List InsT := if f.wa = true ∧ (atV l i.a).inS = true then [⟨37, 5, 0, 0, (atV l i.a).idx⟩] else []
def gv (f : InfT) (i : InsT) (l : List LocT) : List InsT := ((aV f i l ++ bV f i l) ++ cV f i l) ++ [⟨opV i, oA f i l, oB f i l, oC f i l, oN f i⟩] ++ wV f i l
def movV (i : InsT) (l : List LocT) : List InsT := if atV l i.a = atV l i.b then [] else if (atV l i.b).inS = true ∧ (atV l i.a).inS = false then [⟨36, (atV l i.a).idx, 0, 0, (atV l i.b).idx⟩] else if (atV l i.a).inS = true ∧ (atV l i.b).inS = false then [⟨37, (atV l i.b).idx, 0, 0, (atV l i.a).idx⟩] else gv (aj i.op) i l
def expV (v : VInT) (l : List LocT) : List InsT :=
 if alV v.i.op = true ∧ rngV v l.length then
  if v.i.op = 6 then iV l v.args v.args.length ++ [⟨6, (v.args.length : Int), 0, 0, v.i.n⟩] ++ savV (atV l v.i.a).inS (atV l v.i.a).idx
  else if v.i.op = 10 then movV v.i l else gv (aj v.i.op) v.i l
 else []
theorem fet1 {l : List InsT} {to x : Int} {b : Bool} (h : b = true) : l ++ [⟨36, to, 0, 0, x⟩] = l ++ eS to b x := by unfold eS; rw [if_pos h]
theorem fet2 {l : List InsT} {to x : Int} {b : Bool} (h : b = false) (z : x ≠ to) : l ++ [⟨10, to, x, 0, 0⟩] = l ++ eS to b x := by unfold eS; rw [if_neg (by simp [h]), if_neg z]
theorem fet0 {l : List InsT} {to x : Int} {b : Bool} (h : b = false) (z : x = to) : l = l ++ eS to b x := by unfold eS; rw [if_neg (by simp [h]), if_pos z, List.append_nil]
theorem sav1 {l : List InsT} {x : Int} {b : Bool} (h : b = true) : l ++ [⟨37, 0, 0, 0, x⟩] = l ++ savV b x := by unfold savV; rw [if_pos h]
theorem sav2 {l : List InsT} {x : Int} {b : Bool} (h : b = false) (z : x ≠ 0) : l ++ [⟨10, x, 0, 0, 0⟩] = l ++ savV b x := by unfold savV; rw [if_neg (by simp [h]), if_neg z]
theorem sav0 {l : List InsT} {x : Int} {b : Bool} (h : b = false) (z : x = 0) : l = l ++ savV b x := by unfold savV; rw [if_neg (by simp [h]), if_pos z, List.append_nil]
theorem iC {to x : Int} {b : Bool} : (eS to b x).length ≤ 1 := by unfold eS; split <;> (try split) <;> simp
theorem gM {l : List LocT} {a : List Int} : ∀ k, (iV l a k).length ≤ k
 | 0 => Nat.le_refl _
 | k + 1 => by
  have := gM (l := l) (a := a) k
  have := iC (to := (k : Int)) (b := (atV l (a.getD k 0)).inS) (x := (atV l (a.getD k 0)).idx)
  unfold iV; rw [List.length_append]; omega
theorem rd_mem {v : VInT} {x : Int} (h : alV v.i.op = true) (hx : x ∈ dS v) : x ∈ aI v := by
 unfold aI; rw [if_pos h, jB]; exact .inr hx
structure RgF (v : VInT) (n : Int) : Prop where
 a : (aD v.i.op).ra = true ∨ (aD v.i.op).wa = true ∨ v.i.op = 6 ∨ v.i.op = 38 → 0 ≤ v.i.a ∧ v.i.a < n
 b : (aD v.i.op).rb = true → 0 ≤ v.i.b ∧ v.i.b < n
 c : v.i.op = 11 ∨ v.i.op = 12 → 0 ≤ v.i.c ∧ v.i.c < n
 g : v.i.op = 6 → ∀ k, k < v.args.length → 0 ≤ v.args.getD k 0 ∧ v.args.getD k 0 < n
theorem rng_of {v : VInT} {n : Nat} (h : alV v.i.op = true) (hr : rngV v n) : RgF v n := by
 have hm : ∀ x ∈ dS v, 0 ≤ x ∧ x < (n : Int) := fun x hx => hr x (List.mem_append_left _ (rd_mem h hx))
 refine ⟨fun ha => ?_, fun hb => hm _ ?_, fun hc => hm _ ?_, fun A k hk => hm _ ?_⟩
 ·
  by_cases z : (aD v.i.op).ra = true
  ·
   exact hm _ (by unfold dS; rw [if_pos z]; simp)
  refine hr _ (List.mem_append_right _ ?_)
  unfold ak
  rw [if_pos ⟨h, ha.resolve_left z⟩]; exact List.mem_singleton.2 rfl
 ·
  unfold dS; rw [if_pos hb]; simp
 ·
  unfold dS; rw [if_pos hc]; simp
 unfold dS; rw [if_pos A]
 refine List.mem_append_right _ (List.mem_append_right _ (List.mem_append_right _ ?_))
 rw [List.getD_eq_getElem?_getD, List.getElem?_eq_getElem hk]; exact List.getElem_mem hk
theorem rng_no {v : VInT} {n k : Nat} {l : List Int} (e : l = aI v ++ ak v) (hk : k < l.length) (h : ¬ (0 ≤ l.getD k 0 ∧ l.getD k 0 < (n : Int))) : ¬ rngV v n := fun hr => h (hr _ (by
 rw [← e, List.getD_eq_getElem?_getD, List.getElem?_eq_getElem hk]; exact List.getElem_mem hk))
theorem rng_all {v : VInT} {n k : Nat} {l : List Int} (e : l = aI v ++ ak v) (hk : l.length ≤ k) (h : ∀ j, j < k → 0 ≤ l.getD j 0 ∧ l.getD j 0 < (n : Int)) : rngV v n := fun x hx => by
 rw [← e] at hx
 obtain ⟨j, hj, z⟩ := List.mem_iff_getElem.1 hx
 have := h j (by omega)
 rwa [List.getD_eq_getElem?_getD, List.getElem?_eq_getElem hj, Option.getD_some, z] at this
theorem exp_no {v : VInT} {l : List LocT} (h : ¬ (alV v.i.op = true ∧ rngV v l.length)) : [] = expV v l := (if_neg h).symm
theorem exp_6 {v : VInT} {l : List LocT} (h : alV v.i.op = true) (hr : rngV v l.length) (z : v.i.op = 6) : iV l v.args v.args.length ++ [⟨6, (v.args.length : Int), 0, 0, v.i.n⟩] ++ savV (atV l v.i.a).inS (atV l v.i.a).idx = expV v l := by unfold expV; rw [if_pos ⟨h, hr⟩, if_pos z]
theorem exp_o {v : VInT} {l : List LocT} (h : alV v.i.op = true) (hr : rngV v l.length) (z : v.i.op ≠ 6) : (if v.i.op = 10 then movV v.i l else gv (aj v.i.op) v.i l) = expV v l := (if_neg z).symm.trans (if_pos (c := alV v.i.op = true ∧ rngV v l.length) ⟨h, hr⟩).symm
theorem vin_eq {op : Int} (h : op ≠ 38) : aj op = aD op := if_neg h
theorem inf4 {op : Int} (h : alV op = true) (z : op ≠ 38) : (aD op).form = 4 ↔ op = 11 ∨ op = 12 := by rw [← vin_eq z]; exact vf4 h
theorem sr_len {v : VInT} : (aI v).length ≤ 3 + v.args.length ∧ (ak v).length ≤ 1 := by
 constructor
 ·
  unfold aI
  split
  ·
   refine Nat.le_trans dE ?_
   unfold dS
   simp only [List.length_append, List.length_nil]
   have z : (if (aD v.i.op).ra = true then [v.i.a] else []).length ≤ 1 := cr
   have A : (if (aD v.i.op).rb = true then [v.i.b] else []).length ≤ 1 := cr
   have E : (if v.i.op = 11 ∨ v.i.op = 12 then [v.i.c] else []).length ≤ 1 := cr
   have J : (if v.i.op = 6 then v.args else []).length ≤ v.args.length := by split <;> simp
   omega
  exact Nat.zero_le _
 exact cr
theorem len1 {p : Prop} [Decidable p] {x : InsT} : (if p then [x] else []).length ≤ 1 := by split <;> simp
theorem lenA {f : InfT} {i : InsT} {l : List LocT} : (aV f i l).length ≤ 1 := len1
theorem lenB {f : InfT} {i : InsT} {l : List LocT} : (bV f i l).length ≤ 1 := len1
theorem lenC {f : InfT} {i : InsT} {l : List LocT} : (cV f i l).length ≤ 1 := len1
theorem oth1 {f : InfT} {i : InsT} {l : List LocT} {z A E : List InsT} {oo oa ob oc on tx : Int} {tb : Bool} (J : z = aV f i l) (N : A = z ++ bV f i l) (T : E = A ++ cV f i l) (ho : oo = opV i) (ha : oa = oA f i l) (hb : ob = oB f i l) (hc : oc = oC f i l) (hn : on = oN f i)
  (ht : f.wa = true → tb = (atV l i.a).inS ∧ tx = (atV l i.a).idx) (hw : f.wa = true ∧ tb = true) : E ++ [⟨oo, oa, ob, oc, on⟩] ++ [⟨37, 5, 0, 0, tx⟩] = gv f i l := by
 obtain ⟨U, V⟩ := ht hw.1
 unfold gv
 rw [T, N, J, ho, ha, hb, hc, hn, V]
 congr 1
 unfold wV
 rw [if_pos ⟨hw.1, by rw [← U]; exact hw.2⟩]
theorem oth0 {f : InfT} {i : InsT} {l : List LocT} {E J N : List InsT} {oo oa ob oc on : Int} {tb : Bool} (T : E = aV f i l) (U : J = E ++ bV f i l) (V : N = J ++ cV f i l) (ho : oo = opV i) (ha : oa = oA f i l) (hb : ob = oB f i l) (hc : oc = oC f i l) (hn : on = oN f i)
  {tx : Int} (ht : f.wa = true → tb = (atV l i.a).inS ∧ tx = (atV l i.a).idx) (hw : f.wa = true → tb = false) : N ++ [⟨oo, oa, ob, oc, on⟩] = gv f i l := by
 unfold gv
 rw [V, U, T, ho, ha, hb, hc, hn]
 have e : wV f i l = [] := by
  unfold wV
  rw [if_neg]
  rintro ⟨z, A⟩
  rw [← (ht z).1, hw z] at A
  cases A
 rw [e, List.append_nil]
theorem loc_ext {x y : LocT} (h : x.inS = y.inS ∧ x.idx = y.idx) : x = y := by cases x; cases y; simp at h; rw [h.1, h.2]
theorem exp_m {v : VInT} {l : List LocT} (h : alV v.i.op = true) (hr : rngV v l.length) (z : v.i.op = 10) : movV v.i l = expV v l := (if_pos z).symm.trans (exp_o h hr (by omega))
theorem exp_n {v : VInT} {l : List LocT} (h : alV v.i.op = true) (hr : rngV v l.length) (A : v.i.op ≠ 6) (z : v.i.op ≠ 10) : gv (aj v.i.op) v.i l = expV v l := by rw [← exp_o h hr A, if_neg z]
theorem mov1 {i : InsT} {l : List LocT} (h : atV l i.a = atV l i.b) : [] = movV i l := (if_pos h).symm
theorem mov2 {i : InsT} {l : List LocT} (h : ¬ ((atV l i.a).inS = (atV l i.b).inS ∧ (atV l i.a).idx = (atV l i.b).idx)) (z : (atV l i.b).inS = true ∧ (atV l i.a).inS = false) : [⟨36, (atV l i.a).idx, 0, 0, (atV l i.b).idx⟩] = movV i l := by
 unfold movV; rw [if_neg (fun e => h (by rw [e]; exact ⟨rfl, rfl⟩)), if_pos z]
theorem mov3 {i : InsT} {l : List LocT} (z : (atV l i.a).inS = true ∧ (atV l i.b).inS = false) : [⟨37, (atV l i.b).idx, 0, 0, (atV l i.a).idx⟩] = movV i l := by
 unfold movV; rw [if_neg (fun e => by rw [e, z.2] at z; cases z.1), if_neg (fun h => by rw [z.1] at h; cases h.2), if_pos z]
theorem mov4 {i : InsT} {l : List LocT} (h : ¬ ((atV l i.a).inS = (atV l i.b).inS ∧ (atV l i.a).idx = (atV l i.b).idx)) (z : ¬ ((atV l i.b).inS = true ∧ (atV l i.a).inS = false)) (A : ¬ ((atV l i.a).inS = true ∧ (atV l i.b).inS = false)) : gv (aj i.op) i l = movV i l := by
 unfold movV; rw [if_neg (fun e => h (by rw [e]; exact ⟨rfl, rfl⟩)), if_neg z, if_neg A]
theorem ey {b : Bool} {x s : Int} (h : in64 x) (z : in64 s) : in64 (fS b x s) := by unfold fS; split <;> assumption
theorem roth_eq {i : InsT} {l : List LocT} (hm : i.op = 10 → movV i l = gv (aj i.op) i l) : (if i.op = 10 then movV i l else gv (aj i.op) i l) = gv (aj i.op) i l := by
 split
 ·
  rename_i h; exact hm h
 rfl
theorem rng_va {v : VInT} (h : (aj v.i.op).ra = true ∨ (aj v.i.op).wa = true) : (aD v.i.op).ra = true ∨ (aD v.i.op).wa = true ∨ v.i.op = 6 ∨ v.i.op = 38 := by
 rcases h with h | h
 ·
  exact .inl (by rw [← vra]; exact h)
 rcases vwa.1 h with h | h
 ·
  exact .inr (.inl h)
 exact .inr (.inr (.inr h))
theorem par {v : VInT} {l : List LocT} (z : v.i.op = 38) : gv (aj v.i.op) v.i l = [⟨36, fS (atV l v.i.a).inS (atV l v.i.a).idx 5, 0, 0, v.i.n⟩] ++ (if (atV l v.i.a).inS = true then [⟨37, 5, 0, 0, (atV l v.i.a).idx⟩] else []) := by
 have e : aj v.i.op = ⟨⟨[]⟩, 5, false, true, false, false, 0⟩ := by unfold aj; rw [if_pos z]
 unfold gv aV bV cV wV oA oB oC oN opV
 rw [e, if_pos z]
 simp
theorem par1 {v : VInT} {l : List LocT} (h : alV v.i.op = true) (hr : rngV v l.length) (z : v.i.op = 38) (hb : (atV l v.i.a).inS = false) : [⟨36, (atV l v.i.a).idx, 0, 0, v.i.n⟩] = expV v l := by
 rw [← exp_n h hr (by omega) (by omega), par z, hb]; rfl
theorem par2 {v : VInT} {l : List LocT} (h : alV v.i.op = true) (hr : rngV v l.length) (z : v.i.op = 38) (hb : (atV l v.i.a).inS = true) : [⟨36, 5, 0, 0, v.i.n⟩, ⟨37, 5, 0, 0, (atV l v.i.a).idx⟩] = expV v l := by
 rw [← exp_n h hr (by omega) (by omega), par z, hb]; rfl
theorem iu (ex : FuncId) (to : Int) (n : Int) {F : Fz} {H : Heap} {R : List Fp} (hs : HS (.of H []) F H [] R) (hto : in64 to) (hn : in64 n) (hT : TB 37 tabC F) : C Tryd.prog 1 (KT 60 ex 37 tabC) 81 [(iI to), (iI n)] H fun v H' => ∃ (x : InsT) (F' : Fz), Fz.le F F' ∧ HS (.of H []) F' H' [] R ∧ v = .agg ⟨[.int .i64 x.op, .int .i64 x.a, .int .i64 x.b, .int .i64 x.c, .int .i64 x.n]⟩ ∧ in64 x.op ∧ in64 x.a ∧ in64 x.b ∧ in64 x.c ∧ in64 x.n ∧ x = (⟨36, to, 0, 0, n⟩ : InsT) := by
 refine aJ Tryd.func81 rfl rfl ?_
 refine aq 1 rfl ?_
 refine aa ?_
 refine aC (aR hs rfl) rfl rfl ?_
 rintro _ J _ ⟨A, rfl, (E : HS _ _ _ [[(A, .cells [(iI 0), (iI 0), (iI 0), (iI 0), (iI 0)] none false)]] _), _⟩
 refine ab 2 rfl ?_
 refine aa ?_
 refine wRo 3 0 [] 5 7 [] [(7, (.agg ⟨[(iI 36), (iI to), (iI 0), (iI 0), (iI n)]⟩))] trivial rfl fun _ => ?_
 refine aF (aw (q := 0) E rfl rfl rfl rfl rfl rfl rfl rfl rfl) rfl ?_
 rintro _ N _ ⟨(z : HS _ _ _ [[(A, .cells [(iI 36), (iI to), (iI 0), (iI 0), (iI n)] none false)]] _), _⟩
 refine ab 1 rfl ?_
 refine ah ⟨.inr rfl, _, (rC rfl (ldVN rfl rfl (HS.hc z (i := 0) rfl) rfl) rN), (⟨36, to, 0, 0, n⟩ : InsT), _, fR, (HS.forget z), rfl, (by first | (dsimp only; omega) | omega), (by first | (dsimp only; omega) | omega), (by first | (dsimp only; omega) | omega), (by first | (dsimp only; omega) | omega), (by first | (dsimp only; omega) | omega), (by first | rfl | omega | simp_all)⟩
theorem jD (ex : FuncId) (to : Int) (n : Int) {F : Fz} {H : Heap} {R : List Fp} (hs : HS (.of H []) F H [] R) (hto : in64 to) (hn : in64 n) (hT : TB 37 tabC F) : C Tryd.prog 1 (KT 60 ex 37 tabC) 82 [(iI to), (iI n)] H fun v H' => ∃ (x : InsT) (F' : Fz), Fz.le F F' ∧ HS (.of H []) F' H' [] R ∧ v = .agg ⟨[.int .i64 x.op, .int .i64 x.a, .int .i64 x.b, .int .i64 x.c, .int .i64 x.n]⟩ ∧ in64 x.op ∧ in64 x.a ∧ in64 x.b ∧ in64 x.c ∧ in64 x.n ∧ x = (⟨37, to, 0, 0, n⟩ : InsT) := by
 refine aJ Tryd.func82 rfl rfl ?_
 refine aq 1 rfl ?_
 refine aa ?_
 refine aC (aR hs rfl) rfl rfl ?_
 rintro _ J _ ⟨A, rfl, (E : HS _ _ _ [[(A, .cells [(iI 0), (iI 0), (iI 0), (iI 0), (iI 0)] none false)]] _), _⟩
 refine ab 2 rfl ?_
 refine aa ?_
 refine wRo 3 0 [] 5 7 [] [(7, (.agg ⟨[(iI 37), (iI to), (iI 0), (iI 0), (iI n)]⟩))] trivial rfl fun _ => ?_
 refine aF (aw (q := 0) E rfl rfl rfl rfl rfl rfl rfl rfl rfl) rfl ?_
 rintro _ N _ ⟨(z : HS _ _ _ [[(A, .cells [(iI 37), (iI to), (iI 0), (iI 0), (iI n)] none false)]] _), _⟩
 refine ab 1 rfl ?_
 refine ah ⟨.inr rfl, _, (rC rfl (ldVN rfl rfl (HS.hc z (i := 0) rfl) rfl) rN), (⟨37, to, 0, 0, n⟩ : InsT), _, fR, (HS.forget z), rfl, (by first | (dsimp only; omega) | omega), (by first | (dsimp only; omega) | omega), (by first | (dsimp only; omega) | omega), (by first | (dsimp only; omega) | omega), (by first | (dsimp only; omega) | omega), (by first | rfl | omega | simp_all)⟩
theorem move_c (ex : FuncId) (to : Int) (n : Int) {F : Fz} {H : Heap} {R : List Fp} (hs : HS (.of H []) F H [] R) (hto : in64 to) (hn : in64 n) (hT : TB 37 tabC F) : C Tryd.prog 1 (KT 60 ex 37 tabC) 122 [(iI to), (iI n)] H fun v H' => ∃ (x : InsT) (F' : Fz), Fz.le F F' ∧ HS (.of H []) F' H' [] R ∧ v = .agg ⟨[.int .i64 x.op, .int .i64 x.a, .int .i64 x.b, .int .i64 x.c, .int .i64 x.n]⟩ ∧ in64 x.op ∧ in64 x.a ∧ in64 x.b ∧ in64 x.c ∧ in64 x.n ∧ x = (⟨10, to, n, 0, 0⟩ : InsT) := by
 refine aJ Tryd.func122 rfl rfl ?_
 refine aq 1 rfl ?_
 refine aa ?_
 refine aC (aR hs rfl) rfl rfl ?_
 rintro _ J _ ⟨A, rfl, (E : HS _ _ _ [[(A, .cells [(iI 0), (iI 0), (iI 0), (iI 0), (iI 0)] none false)]] _), _⟩
 refine ab 2 rfl ?_
 refine aa ?_
 refine wRo 3 0 [] 5 7 [] [(7, (.agg ⟨[(iI 10), (iI to), (iI n), (iI 0), (iI 0)]⟩))] trivial rfl fun _ => ?_
 refine aF (aw (q := 0) E rfl rfl rfl rfl rfl rfl rfl rfl rfl) rfl ?_
 rintro _ N _ ⟨(z : HS _ _ _ [[(A, .cells [(iI 10), (iI to), (iI n), (iI 0), (iI 0)] none false)]] _), _⟩
 refine ab 1 rfl ?_
 refine ah ⟨.inr rfl, _, (rC rfl (ldVN rfl rfl (HS.hc z (i := 0) rfl) rfl) rN), (⟨10, to, n, 0, 0⟩ : InsT), _, fR, (HS.forget z), rfl, (by first | (dsimp only; omega) | omega), (by first | (dsimp only; omega) | omega), (by first | (dsimp only; omega) | omega), (by first | (dsimp only; omega) | omega), (by first | (dsimp only; omega) | omega), (by first | rfl | omega | simp_all)⟩
theorem ig (ex : FuncId) (x : LocT) (sc : Int) {F : Fz} {H : Heap} {R : List Fp} (hs : HS (.of H []) F H [] R) (N : in64 x.idx) (hsc : in64 sc) (hT : TB 37 tabC F) : C Tryd.prog 1 (KT 60 ex 37 tabC) 124 [(.agg ⟨[(.bool x.inS), (iI x.idx)]⟩), (iI sc)] H fun v H' => ∃ (r : Int) (F' : Fz), Fz.le F F' ∧ HS (.of H []) F' H' [] R ∧ v = .int .i64 r ∧ r = fS x.inS x.idx sc := by
 refine aJ Tryd.func124 rfl rfl ?_
 refine aq 1 rfl ?_
 refine aa ?_
 refine aC (be hs rfl rfl) rfl rfl ?_
 rintro _ T _ ⟨J, rfl, (A : HS _ _ _ [[(J, .cells [(.bool x.inS), (iI x.idx)] none false)]] _), _⟩
 refine wa (iI 0) rfl rfl rfl ?_
 refine ab 3 rfl ?_
 refine wR 1 [(1, .o (.bool x.inS))] 5 6 [] [(6, (.bool x.inS))] (vA (ql 4 0 (HS.hc A (i := 0) rfl) rfl rfl) trivial) rfl fun _ => ?_
 refine ap 1 2 (v := x.inS) rfl rfl rfl rfl (fun z => ?_) (fun z => ?_)
 ·
  have E := z
  try simp only [BS] at E
  refine wR 1 [] 4 4 [7] [(4, (iI sc))] trivial rfl fun _ => ?_
  refine ah ⟨.inr rfl, _, rfl, sc, _, fR, (HS.forget A), rfl, (by unfold fS; simp [z])⟩
 have E := z
 try simp only [BS] at E
 refine wR 1 [(1, .o (iI x.idx))] 8 9 [4] [(4, (iI x.idx))] (vA (ql 3 1 (HS.hc A (i := 0) rfl) rfl rfl) trivial) rfl fun _ => ?_
 refine ah ⟨.inr rfl, _, rfl, x.idx, _, fR, (HS.forget A), rfl, (by unfold fS; simp [z])⟩
theorem hR (ex : FuncId) (to : Int) (x : LocT) {F : Fz} {H : Heap} {R : List Fp} (hs : HS (.of H []) F H [] R) (hto : in64 to) (a2 : in64 x.idx) (hT : TB 37 tabC F) : C Tryd.prog 1 (KT 60 ex 37 tabC) 123 [(iI to), (.agg ⟨[(.bool x.inS), (iI x.idx)]⟩)] H fun v H' => ∃ (ar : Option Addr) (kr : Nat) (r : List InsT) (p : Fp) (F' : Fz), Fz.le F F' ∧ HS (.of H []) F' H' [p] R ∧ v = .slice ar r.length kr ∧ OS F' (.slice ar r.length kr) r p ∧ r = eS to x.inS x.idx := by
 refine aJ Tryd.func123 rfl rfl ?_
 refine aq 1 rfl ?_
 refine aa ?_
 refine aC (be hs rfl rfl) rfl rfl ?_
 rintro _ H2 _ ⟨b1, rfl, (z : HS _ _ _ [[(b1, .cells [(.bool x.inS), (iI x.idx)] none false)]] _), _⟩
 refine wa (.slice none 0 0) rfl rfl rfl ?_
 refine ab 4 rfl ?_
 refine wR 1 [(1, .o (.bool x.inS))] 5 7 [] [(5, (.bool x.inS))] (vA (ql 4 0 (HS.hc z (i := 0) rfl) rfl rfl) trivial) rfl fun _ => ?_
 refine ap 1 1 (v := x.inS) rfl rfl rfl rfl (fun A => ?_) (fun A => ?_)
 ·
  have Z := A
  try simp only [BS] at Z
  refine aa ?_
  let U : Value := (.agg ⟨[(iI 36), (iI to), (iI 0), (iI 0), (iI x.idx)]⟩)
  refine wRo 4 0 [(2, .o (iI x.idx))] 8 11 [] [(11, U)] (vA (ql 3 1 (HS.hc z (i := 0) rfl) rfl rfl) trivial) rfl fun _ => ?_
  refine aC (aP (α := InsT) (ps := [(0, U)]) (cells := [(iI 36), (iI to), (iI 0), (iI 0), (iI x.idx)]) ([(⟨36, to, 0, 0, x.idx⟩ : InsT)] : List InsT) z rfl rfl rfl (by kernel_rfl) ⟨[(iI 36), (iI to), (iI 0), (iI 0), (iI x.idx)], [], rfl, ⟨rfl, by first | (dsimp only; omega) | omega, by first | (dsimp only; omega) | omega, by first | (dsimp only; omega) | omega, by first | (dsimp only; omega) | omega, by first | (dsimp only; omega) | omega⟩, rfl⟩ rfl) rfl rfl ?_
  rintro _ H7 p6 ⟨a6, k6, rfl, av, (ax : HS _ _ _ [_, p6] _), _⟩
  refine wa (.slice a6 ([(⟨36, to, 0, 0, x.idx⟩ : InsT)] : List InsT).length k6) rfl rfl rfl ?_
  refine ab 1 rfl ?_
  refine ah ⟨.inr rfl, _, rfl, a6, k6, ([(⟨36, to, 0, 0, x.idx⟩ : InsT)] : List InsT), p6, _, fR, (HS.only ax (i := 1) rfl), rfl, av, (by first | exact fet1 (l := []) (by assumption) | exact fet2 (l := []) (by assumption) (by assumption) | exact fet0 (l := []) (by assumption) (by omega))⟩
 have Z := A
 try simp only [BS] at Z
 refine wR 1 [(1, .o (iI x.idx))] 13 17 [] [(13, (.bool (x.idx != to)))] (vA (ql 3 1 (HS.hc z (i := 0) rfl) rfl rfl) trivial) rfl fun _ => ?_
 refine ap 1 3 (v := (x.idx != to)) rfl rfl rfl rfl (fun E => ?_) (fun E => ?_)
 ·
  have c9 := E
  try simp only [BS] at c9
  refine aa ?_
  let V : Value := (.agg ⟨[(iI 10), (iI to), (iI x.idx), (iI 0), (iI 0)]⟩)
  refine wRo 4 0 [(2, .o (iI x.idx))] 18 21 [] [(21, V)] (vA (ql 3 1 (HS.hc z (i := 0) rfl) rfl rfl) trivial) rfl fun _ => ?_
  refine aC (aP (α := InsT) (ps := [(0, V)]) (cells := [(iI 10), (iI to), (iI x.idx), (iI 0), (iI 0)]) ([(⟨10, to, x.idx, 0, 0⟩ : InsT)] : List InsT) z rfl rfl rfl (by kernel_rfl) ⟨[(iI 10), (iI to), (iI x.idx), (iI 0), (iI 0)], [], rfl, ⟨rfl, by first | (dsimp only; omega) | omega, by first | (dsimp only; omega) | omega, by first | (dsimp only; omega) | omega, by first | (dsimp only; omega) | omega, by first | (dsimp only; omega) | omega⟩, rfl⟩ rfl) rfl rfl ?_
  rintro _ a3 T ⟨J, N, rfl, ag, (al : HS _ _ _ [_, T] _), _⟩
  refine wa (.slice J ([(⟨10, to, x.idx, 0, 0⟩ : InsT)] : List InsT).length N) rfl rfl rfl ?_
  refine ab 1 rfl ?_
  refine ah ⟨.inr rfl, _, rfl, J, N, ([(⟨10, to, x.idx, 0, 0⟩ : InsT)] : List InsT), T, _, fR, (HS.only al (i := 1) rfl), rfl, ag, (by first | exact fet1 (l := []) (by assumption) | exact fet2 (l := []) (by assumption) (by assumption) | exact fet0 (l := []) (by assumption) (by omega))⟩
 have c9 := E
 try simp only [BS] at c9
 refine wR 1 [] 4 4 [] [(4, (.slice none 0 0))] trivial rfl fun _ => ?_
 refine ah ⟨.inr rfl, _, rfl, none, 0, ([] : List InsT), [], _, fR, (HS.cons (HS.forget z)), rfl, (OS.nil : OS _ _ _ []), (by first | exact fet1 (l := []) (by assumption) | exact fet2 (l := []) (by assumption) (by assumption) | exact fet0 (l := []) (by assumption) (by omega))⟩
theorem same_c (ex : FuncId) {a_a : Option Addr} {k_a : Nat} (a : List InsT) {a_b : Option Addr} {k_b : Nat} (b : List InsT) {F : Fz} {H : Heap} {R : List Fp} (hs : HS (.of H []) F H [] R) (ha : SR F (.slice a_a a.length k_a) a) (hb : SR F (.slice a_b b.length k_b) b) (hT : TB 37 tabC F) (hlen : a.length ≤ 1073741824) (he : a = b) : C Tryd.prog 1 (KT 60 ex 37 tabC) 41 [(.slice a_a a.length k_a), (.slice a_b b.length k_b)] H fun v H' => ∃ (r : Bool), H' = H ∧ v = .bool r ∧ r = true := by
 refine aJ Tryd.func41 rfl rfl ?_
 refine aq 1 rfl ?_
 refine wR 3 [] 4 4 [] [(4, (.bool false))] trivial rfl fun _ => ?_
 refine wR 1 [] 6 10 [] [(10, (.bool ((a.length : Int) != (b.length : Int))))] trivial rfl fun _ => ?_
 refine wk_iff 3 (v := ((a.length : Int) != (b.length : Int))) rfl (by simp [he]) rfl rfl ?_
 refine wR 2 [] 1 0 [5] [(5, (iI 0))] trivial rfl fun _ => ?_
 refine aE (fun (mm : Nat) f H' => ∃ (i : Nat), H' = H ∧ aH f [(0, (.slice a_a a.length k_a)), (1, (.slice a_b b.length k_b)), (5, (iI (i : Int)))] ∧ mm = a.length - i ∧ (i ≤ a.length)) _ ⟨0, rfl, (agC rfl (agC rfl (agC rfl agN))), rfl, (by first | assumption | omega | (simp at *; omega))⟩ ?_
 rintro a1 f4 H ⟨i, rfl, A, rfl, h1⟩ T
 refine au _ A (fun _ => ?_)
 clear A
 refine aq 2 rfl ?_
 refine wR 1 [] 11 14 [] [(14, (.bool (decide ((i : Int) < (a.length : Int)))))] trivial rfl fun _ => ?_
 refine ap 4 5 (v := (decide ((i : Int) < (a.length : Int)))) rfl rfl rfl rfl (fun z => ?_) (fun z => ?_)
 ·
  have N := z
  try simp only [BS] at N
  have hib : i < b.length := by rw [← he]; omega
  obtain ⟨ay, E⟩ := Sv.view (SR.sv ha hs)
  obtain ⟨al, an, ar, av, ax⟩ := InsT.fx (E i)
  obtain ⟨a0, J⟩ := Sv.view (SR.sv hb hs)
  obtain ⟨U, V, Z, ad, ag⟩ := InsT.fx (J i)
  refine wRD 1 [(3, .o (.agg ⟨[(iI (a.getD i default).op), (iI (a.getD i default).a), (iI (a.getD i default).b), (iI (a.getD i default).c), (iI (a.getD i default).n)]⟩)), (7, .o (.agg ⟨[(iI (b.getD i default).op), (iI (b.getD i default).a), (iI (b.getD i default).b), (iI (b.getD i default).c), (iI (b.getD i default).n)]⟩)), (8, .o (.bool (!(((a.getD i default).op == (b.getD i default).op) && (((a.getD i default).a == (b.getD i default).a) && (((a.getD i default).b == (b.getD i default).b) && (((a.getD i default).c == (b.getD i default).c) && (((a.getD i default).n == (b.getD i default).n) && true))))))))] 17 25 [] [(25, (.bool (!(((a.getD i default).op == (b.getD i default).op) && (((a.getD i default).a == (b.getD i default).a) && (((a.getD i default).b == (b.getD i default).b) && (((a.getD i default).c == (b.getD i default).c) && (((a.getD i default).n == (b.getD i default).n) && true))))))))] (vA (Sv.ix (j := (i : Int)) (SR.sv ha hs) (by omega) (by omega)) (vA (qn 50 0 5 (hc0 (InsT.vw (E i) (by omega))) rfl rfl rfl rfl) (vA (Sv.ix (j := (i : Int)) (SR.sv hb hs) (by omega) (by omega)) (vA (qn 50 0 5 (hc0 (InsT.vw (J i) (by omega))) rfl rfl rfl rfl) (vA (agNe (P := Tryd.prog) (t := 50) (xs := [(iI (a.getD i default).op), (iI (a.getD i default).a), (iI (a.getD i default).b), (iI (a.getD i default).c), (iI (a.getD i default).n)]) (ys := [(iI (b.getD i default).op), (iI (b.getD i default).a), (iI (b.getD i default).b), (iI (b.getD i default).c), (iI (b.getD i default).n)]) (bs := [((a.getD i default).op == (b.getD i default).op), ((a.getD i default).a == (b.getD i default).a), ((a.getD i default).b == (b.getD i default).b), ((a.getD i default).c == (b.getD i default).c), ((a.getD i default).n == (b.getD i default).n)]) rfl rfl rfl (by kernel_rfl) (by kernel_rfl) (.cons ⟨by decide, _, _, rfl, rfl, eqI rfl⟩ (.cons ⟨by decide, _, _, rfl, rfl, eqI rfl⟩ (.cons ⟨by decide, _, _, rfl, rfl, eqI rfl⟩ (.cons ⟨by decide, _, _, rfl, rfl, eqI rfl⟩ (.cons ⟨by decide, _, _, rfl, rfl, eqI rfl⟩ .nil)))))) trivial))))) rfl rfl fun _ => ?_
  refine wk_iff 2 (v := (!(((a.getD i default).op == (b.getD i default).op) && (((a.getD i default).a == (b.getD i default).a) && (((a.getD i default).b == (b.getD i default).b) && (((a.getD i default).c == (b.getD i default).c) && (((a.getD i default).n == (b.getD i default).n) && true))))))) rfl (by rw [he]; simp) rfl rfl ?_
  refine wR 1 [] 15 16 [5] [(5, (iI ((i : Int) + 1)))] (vA (vi (n := (i : Int) + 1) (by omega)) trivial) rfl fun _ => ?_
  refine T _ _ _ ?_ ⟨i + 1, rfl, (agC rfl (agC rfl (agC rfl agN))), rfl, (by first | assumption | omega | (simp at *; omega))⟩
  omega
 have N := z
 try simp only [BS] at N
 refine wR 1 [] 4 4 [] [(4, (.bool true))] trivial rfl fun _ => ?_
 refine ah ⟨.inr rfl, _, rfl, true, rfl, rfl, (by rfl)⟩
theorem lalw_c (ex : FuncId) (op : Int) (H : Heap) : C Tryd.prog 1 (KT 60 ex 37 tabC) 78 [(iI op)] H fun v H' => ∃ (r : Bool), H' = H ∧ v = .bool r ∧ r = alV op := by
 refine aJ Tryd.func78 rfl rfl ?_
 refine aq 1 rfl ?_
 refine wR 3 [] 2 2 [] [(2, (.bool false))] trivial rfl fun _ => ?_
 refine wR 4 [] 3 3 [] [(3, (iI op))] trivial rfl fun _ => ?_
 refine wR 1 [] 4 5 [] [(4, (.bool (op == 3)))] trivial rfl fun _ => ?_
 refine ap 1 1 (v := (op == 3)) rfl rfl rfl rfl (fun ad => ?_) (fun ad => ?_)
 ·
  have c4 := ad
  try simp only [BS] at c4
  refine aU 1 (v := (op == 3)) rfl ad rfl rfl ?_
  refine wR 1 [] 2 2 [] [(2, (.bool true))] trivial rfl fun _ => ?_
  refine ah ⟨.inr rfl, _, rfl, true, rfl, rfl, (by exact bo (by simp; omega))⟩
 have c4 := ad
 try simp only [BS] at c4
 refine wR 1 [] 4 6 [] [(4, (.bool (op == 6)))] trivial rfl fun _ => ?_
 refine ap 1 1 (v := (op == 6)) rfl rfl rfl rfl (fun ag => ?_) (fun ag => ?_)
 ·
  have c7 := ag
  try simp only [BS] at c7
  refine aU 1 (v := (op == 6)) rfl ag rfl rfl ?_
  refine wR 1 [] 2 2 [] [(2, (.bool true))] trivial rfl fun _ => ?_
  refine ah ⟨.inr rfl, _, rfl, true, rfl, rfl, (by exact bo (by simp; omega))⟩
 have c7 := ag
 try simp only [BS] at c7
 refine wR 1 [] 4 7 [] [(4, (.bool (op == 9)))] trivial rfl fun _ => ?_
 refine ap 1 1 (v := (op == 9)) rfl rfl rfl rfl (fun z => ?_) (fun z => ?_)
 ·
  have al := z
  try simp only [BS] at al
  refine aU 1 (v := (op == 9)) rfl z rfl rfl ?_
  refine wR 1 [] 2 2 [] [(2, (.bool true))] trivial rfl fun _ => ?_
  refine ah ⟨.inr rfl, _, rfl, true, rfl, rfl, (by exact bo (by simp; omega))⟩
 have al := z
 try simp only [BS] at al
 refine wR 1 [] 4 8 [] [(4, (.bool (op == 10)))] trivial rfl fun _ => ?_
 refine ap 1 1 (v := (op == 10)) rfl rfl rfl rfl (fun A => ?_) (fun A => ?_)
 ·
  have an := A
  try simp only [BS] at an
  refine aU 1 (v := (op == 10)) rfl A rfl rfl ?_
  refine wR 1 [] 2 2 [] [(2, (.bool true))] trivial rfl fun _ => ?_
  refine ah ⟨.inr rfl, _, rfl, true, rfl, rfl, (by exact bo (by simp; omega))⟩
 have an := A
 try simp only [BS] at an
 refine wR 1 [] 4 9 [] [(4, (.bool (op == 11)))] trivial rfl fun _ => ?_
 refine ap 1 1 (v := (op == 11)) rfl rfl rfl rfl (fun E => ?_) (fun E => ?_)
 ·
  have ar := E
  try simp only [BS] at ar
  refine aU 1 (v := (op == 11)) rfl E rfl rfl ?_
  refine wR 1 [] 2 2 [] [(2, (.bool true))] trivial rfl fun _ => ?_
  refine ah ⟨.inr rfl, _, rfl, true, rfl, rfl, (by exact bo (by simp; omega))⟩
 have ar := E
 try simp only [BS] at ar
 refine wR 1 [] 4 10 [] [(4, (.bool (op == 12)))] trivial rfl fun _ => ?_
 refine ap 1 1 (v := (op == 12)) rfl rfl rfl rfl (fun J => ?_) (fun J => ?_)
 ·
  have av := J
  try simp only [BS] at av
  refine aU 1 (v := (op == 12)) rfl J rfl rfl ?_
  refine wR 1 [] 2 2 [] [(2, (.bool true))] trivial rfl fun _ => ?_
  refine ah ⟨.inr rfl, _, rfl, true, rfl, rfl, (by exact bo (by simp; omega))⟩
 have av := J
 try simp only [BS] at av
 refine wR 1 [] 4 11 [] [(4, (.bool (op == 13)))] trivial rfl fun _ => ?_
 refine ap 1 1 (v := (op == 13)) rfl rfl rfl rfl (fun N => ?_) (fun N => ?_)
 ·
  have ax := N
  try simp only [BS] at ax
  refine aU 1 (v := (op == 13)) rfl N rfl rfl ?_
  refine wR 1 [] 2 2 [] [(2, (.bool true))] trivial rfl fun _ => ?_
  refine ah ⟨.inr rfl, _, rfl, true, rfl, rfl, (by exact bo (by simp; omega))⟩
 have ax := N
 try simp only [BS] at ax
 refine wR 1 [] 4 12 [] [(4, (.bool (op == 33)))] trivial rfl fun _ => ?_
 refine ap 1 1 (v := (op == 33)) rfl rfl rfl rfl (fun T => ?_) (fun T => ?_)
 ·
  have ay := T
  try simp only [BS] at ay
  refine aU 1 (v := (op == 33)) rfl T rfl rfl ?_
  refine wR 1 [] 2 2 [] [(2, (.bool true))] trivial rfl fun _ => ?_
  refine ah ⟨.inr rfl, _, rfl, true, rfl, rfl, (by exact bo (by simp; omega))⟩
 have ay := T
 try simp only [BS] at ay
 refine wR 1 [] 4 13 [] [(4, (.bool (op == 34)))] trivial rfl fun _ => ?_
 refine ap 1 1 (v := (op == 34)) rfl rfl rfl rfl (fun U => ?_) (fun U => ?_)
 ·
  have a0 := U
  try simp only [BS] at a0
  refine aU 1 (v := (op == 34)) rfl U rfl rfl ?_
  refine wR 1 [] 2 2 [] [(2, (.bool true))] trivial rfl fun _ => ?_
  refine ah ⟨.inr rfl, _, rfl, true, rfl, rfl, (by exact bo (by simp; omega))⟩
 have a0 := U
 try simp only [BS] at a0
 refine wR 1 [] 4 14 [] [(4, (.bool (op == 35)))] trivial rfl fun _ => ?_
 refine ap 1 0 (v := (op == 35)) rfl rfl rfl rfl (fun V => ?_) (fun V => ?_)
 ·
  have a1 := V
  try simp only [BS] at a1
  refine aU 1 (v := (op == 35)) rfl V rfl rfl ?_
  refine wR 1 [] 2 2 [] [(2, (.bool true))] trivial rfl fun _ => ?_
  refine ah ⟨.inr rfl, _, rfl, true, rfl, rfl, (by exact bo (by simp; omega))⟩
 have a1 := V
 try simp only [BS] at a1
 refine wR 1 [] 4 15 [] [(4, (.bool (op == 38)))] trivial rfl fun _ => ?_
 refine ap 1 3 (v := (op == 38)) rfl rfl rfl rfl (fun Z => ?_) (fun Z => ?_)
 ·
  have a2 := Z
  try simp only [BS] at a2
  refine wR 1 [] 2 2 [] [(2, (.bool true))] trivial rfl fun _ => ?_
  refine ah ⟨.inr rfl, _, rfl, true, rfl, rfl, (by exact bo (by simp; omega))⟩
 have a2 := Z
 try simp only [BS] at a2
 refine wR 1 [] 16 21 [2] [(2, (.bool ((decide ((15 : Int) ≤ op)) && (decide (op ≤ 32)))))] trivial rfl fun _ => ?_
 refine ah ⟨.inr rfl, _, rfl, ((decide ((15 : Int) ≤ op)) && (decide (op ≤ 32))), rfl, rfl, (by exact bo (by simp; omega))⟩
theorem lalw_c_q (ex : FuncId) (op : Int) (H : Heap) : C Tryd.prog 1 (KT 60 ex 37 tabC) 78 [(iI op)] H fun v H' => v = (.bool (alV op)) ∧ H' = H :=
 cq (lalw_c ex op H) (by rintro _ _ ⟨_, rfl, rfl, rfl⟩; exact ⟨rfl, rfl⟩)
set_option maxHeartbeats 1000000 in
theorem xop_c (ex : FuncId) (i : InsT) {bl : Option Addr} {ch : Nat} {an : Option Addr} {ay : Nat} (a : AllT) {F : Fz} {H : Heap} {R : List Fp} (hs : HS (.of H []) F H [] R) (lm : in64 i.op) (ln : in64 i.a) (lp : in64 i.b) (lq : in64 i.c) (lr : in64 i.n) (A : SR F (.slice an a.locs.length ay) a.locs) (lj : SR F (.slice bl a.spi.length ch) a.spi) (ll : in64 a.slots) (hT : TB 37 tabC F) (hal : alV i.op = true) (it : i.op ≠ 38) (hA : (aD i.op).ra = true ∨ (aD i.op).wa = true → 0 ≤ i.a ∧ i.a < (a.locs.length : Int)) (hB : (aD i.op).rb = true → 0 ≤ i.b ∧ i.b < (a.locs.length : Int)) (hC : (aD i.op).form = 4 → 0 ≤ i.c ∧ i.c < (a.locs.length : Int)) : C Tryd.prog 1 (KT 60 ex 37 tabC) 83 [(.agg ⟨[(iI i.op), (iI i.a), (iI i.b), (iI i.c), (iI i.n)]⟩), (.agg ⟨[(.slice an a.locs.length ay), (.slice bl a.spi.length ch), (iI a.slots)]⟩)] H fun v H' => ∃ (ar : Option Addr) (kr : Nat) (r : List InsT) (p : Fp) (F' : Fz), Fz.le F F' ∧ HS (.of H []) F' H' [p] R ∧ v = .slice ar r.length kr ∧ OS F' (.slice ar r.length kr) r p ∧ r = gv (aD i.op) i a.locs := by
 refine aJ Tryd.func83 rfl rfl ?_
 refine aq 1 rfl ?_
 refine aa ?_
 refine aC (be hs rfl rfl) rfl rfl ?_
 rintro _ H2 _ ⟨b1, rfl, (kU : HS _ _ _ [[(b1, .cells [(iI i.op), (iI i.a), (iI i.b), (iI i.c), (iI i.n)] none false)]] _), _⟩
 refine aC (be kU rfl rfl) rfl rfl ?_
 rintro _ H4 _ ⟨b3, rfl, (hq : HS _ _ _ [_, [(b3, .cells [(.slice an a.locs.length ay), (.slice bl a.spi.length ch), (iI a.slots)] none false)]] _), _⟩
 refine wa (.slice none 0 0) rfl rfl rfl ?_
 refine ab 2 rfl ?_
 refine aa ?_
 refine wRo 2 0 [(1, .o (iI i.op))] 14 15 [] [(15, (iI i.op))] (vA (ql 3 0 (HS.hc hq (i := 0) rfl) rfl rfl) trivial) rfl fun _ => ?_
 refine az (am rfl rfl rfl) rfl rfl (m1.mInfo_c ex i.op (HS.call hq) (by first | (dsimp only; omega) | omega) hT) ?_
 rintro _ H6 ⟨x6, o6, F6, fd, hv, rfl, kS, kT, rfl, rfl⟩
 replace hv : HS _ _ _ [_, _] _ := HS.back hq rfl hv
 replace hT := hT.mono fd
 replace A := A.mono fd
 refine wRo 3 3 [] 17 18 [13] [(17, (.agg ⟨[(.string ⟨⟨(aD i.op).name.b⟩⟩), (iI (aD i.op).form), (.bool (aD i.op).ra), (.bool (aD i.op).wa), (.bool (aD i.op).rb), (.bool (aD i.op).mt), (iI (aD i.op).words)]⟩)), (18, (.bool (infO i.op)))] trivial rfl fun _ => ?_
 refine aC (aR hv rfl) rfl rfl ?_
 rintro _ H9 _ ⟨b8, rfl, (kV : HS _ _ _ [_, _, [(b8, .cells [(.string ⟨⟨[]⟩⟩), (iI 0), (.bool false), (.bool false), (.bool false), (.bool false), (iI 0)] none false)]] _), _⟩
 refine aF (aw (q := 2) kV rfl rfl rfl rfl rfl rfl rfl rfl rfl) rfl ?_
 rintro _ lD _ ⟨(hm : HS _ _ _ [_, _, [(b8, .cells [(.string ⟨⟨(aD i.op).name.b⟩⟩), (iI (aD i.op).form), (.bool (aD i.op).ra), (.bool (aD i.op).wa), (.bool (aD i.op).rb), (.bool (aD i.op).mt), (iI (aD i.op).words)] none false)]] _), _⟩
 refine wa (.bool (infO i.op)) rfl rfl rfl ?_
 refine ab 2 rfl ?_
 refine wR 2 [] 1 0 [7] [(7, (.slice none 0 0))] trivial rfl fun _ => ?_
 refine aa ?_
 refine wRo 3 0 [(1, .o (iI i.op))] 19 21 [] [(21, (.agg ⟨[(iI i.op), (iI 0), (iI 0), (iI 0), (iI 0)]⟩))] (vA (ql 3 0 (HS.hc hm (i := 0) rfl) rfl rfl) trivial) rfl fun _ => ?_
 refine aC (aR hm rfl) rfl rfl ?_
 rintro _ lE _ ⟨z, rfl, (kj : HS _ _ _ [_, _, _, [(z, .cells [(iI 0), (iI 0), (iI 0), (iI 0), (iI 0)] none false)]] _), _⟩
 refine aF (aw (q := 3) kj rfl rfl rfl rfl rfl rfl rfl rfl rfl) rfl ?_
 rintro _ lF _ ⟨(a8 : HS _ _ _ [_, _, _, [(z, .cells [(iI i.op), (iI 0), (iI 0), (iI 0), (iI 0)] none false)]] _), _⟩
 refine ab 3 rfl ?_
 refine wR 1 [(1, .o (iI (aD i.op).form)), (5, .o (iI (aD i.op).form))] 22 29 [] [(29, (.bool (((aD i.op).form == 5) || ((aD i.op).form == 7))))] (vA (ql 3 1 (HS.hc a8 (i := 2) rfl) rfl rfl) (vA (fun (g1 : ((aD i.op).form == 5) = false) => (ql 3 1 (HS.hc a8 (i := 2) rfl) rfl rfl)) trivial)) rfl fun _ => ?_
 let co : Fp := [(b1, .cells [(iI i.op), (iI i.a), (iI i.b), (iI i.c), (iI i.n)] none false)]
 let c0 : Fp := [(b3, .cells [(.slice an a.locs.length ay), (.slice bl a.spi.length ch), (iI a.slots)] none false)]
 let c3 : Fp := [(b8, .cells [(.string ⟨⟨(aD i.op).name.b⟩⟩), (iI (aD i.op).form), (.bool (aD i.op).ra), (.bool (aD i.op).wa), (.bool (aD i.op).rb), (.bool (aD i.op).mt), (iI (aD i.op).words)] none false)]
 refine aY (fun f H' => ∃ (on : Int) (F' : Fz), Fz.le F6 F' ∧ HS (Base.of H []) F' H' [co, c0, c3, [(z, .cells [(iI i.op), (iI 0), (iI 0), (iI 0), (iI on)] none false)]] R ∧ aH f [(2, (.pointer (some ⟨b1, 0, none⟩))), (3, (.pointer (some ⟨b3, 0, none⟩))), (4, (.slice none 0 0)), (5, (.pointer (some ⟨b8, 0, none⟩))), (7, (.slice none 0 0)), (8, (.pointer (some ⟨z, 0, none⟩)))] ∧ (on = oN (aD i.op) i) ∧ (in64 on)) (fun hK => ?_) ?_
 ·
  refine ap 0 0 (v := (((aD i.op).form == 5) || ((aD i.op).form == 7))) rfl rfl rfl rfl (fun c7 => ?_) (fun c7 => ?_)
  ·
   have f5 := c7
   try simp only [BS] at f5
   refine aa ?_
   refine wRo 3 0 [(1, .o (iI i.n))] 30 32 [] [(31, (iI i.n)), (32, (.pointer (some ⟨z, 4, none⟩)))] (vA (ql 2 4 (HS.hc a8 (i := 0) rfl) rfl rfl) trivial) rfl fun _ => ?_
   refine aF (aw (q := 3) a8 rfl rfl rfl rfl rfl rfl rfl rfl rfl) rfl ?_
   rintro _ lH _ ⟨(kk : HS _ _ _ [_, _, _, [(z, .cells [(iI i.op), (iI 0), (iI 0), (iI 0), (iI i.n)] none false)]] _), _⟩
   refine ab 0 rfl ?_
   exact hK _ _ ⟨i.n, _, fR, kk, (agC rfl (agC rfl (agC rfl (agC rfl (agC rfl (agC rfl agN)))))), (by unfold oN; split <;> first | rfl | omega), (by first | assumption | omega | (simp at *; omega))⟩
  have f5 := c7
  try simp only [BS] at f5
  exact hK _ _ ⟨0, _, fR, a8, (agC rfl (agC rfl (agC rfl (agC rfl (agC rfl (agC rfl agN)))))), (by unfold oN; split <;> first | rfl | omega), (by first | assumption | omega | (simp at *; omega))⟩
 skip
 rintro mr lG ⟨on, kN, b0, a9, hg, hn, rn⟩
 refine au _ hg (fun _ => ?_)
 clear hg
 replace hT := hT.mono b0
 replace A := A.mono b0
 refine aq 3 rfl ?_
 refine wR 1 [(1, .o (iI i.op)), (5, .o (iI i.n)), (9, .o (iI i.n))] 33 45 [] [(45, (.bool ((i.op == 13) && ((decide (i.n < (-4194304))) || (decide ((4194304 : Int) ≤ i.n))))))] (vA (ql 3 0 (HS.hc a9 (i := 0) rfl) rfl rfl) (vA (fun (g1 : (i.op == 13) = true) => (ql 2 4 (HS.hc a9 (i := 0) rfl) rfl rfl)) (vA (fun (g1 : (decide (i.n < (-4194304))) = false) (g2 : (i.op == 13) = true) => (ql 2 4 (HS.hc a9 (i := 0) rfl) rfl rfl)) trivial))) rfl fun _ => ?_
 refine aY (fun f H' => ∃ (oo : Int) (F' : Fz), Fz.le kN F' ∧ HS (Base.of H []) F' H' [co, c0, c3, [(z, .cells [(iI oo), (iI 0), (iI 0), (iI 0), (iI on)] none false)]] R ∧ aH f [(2, (.pointer (some ⟨b1, 0, none⟩))), (3, (.pointer (some ⟨b3, 0, none⟩))), (4, (.slice none 0 0)), (5, (.pointer (some ⟨b8, 0, none⟩))), (7, (.slice none 0 0)), (8, (.pointer (some ⟨z, 0, none⟩)))] ∧ (oo = opV i) ∧ (in64 oo)) (fun hM => ?_) ?_
 ·
  refine ap 0 0 (v := ((i.op == 13) && ((decide (i.n < (-4194304))) || (decide ((4194304 : Int) ≤ i.n))))) rfl rfl rfl rfl (fun c8 => ?_) (fun c8 => ?_)
  ·
   have f7 := c8
   try simp only [BS] at f7
   refine aa ?_
   refine wRo 1 0 [] 46 46 [] [(46, (.pointer (some ⟨z, 0, none⟩)))] trivial rfl fun _ => ?_
   refine aF (aw (q := 3) a9 rfl rfl rfl rfl rfl rfl rfl rfl rfl) rfl ?_
   rintro _ lJ _ ⟨(km : HS _ _ _ [_, _, _, [(z, .cells [(iI 14), (iI 0), (iI 0), (iI 0), (iI on)] none false)]] _), _⟩
   refine ab 0 rfl ?_
   exact hM _ _ ⟨14, _, fR, km, (agC rfl (agC rfl (agC rfl (agC rfl (agC rfl (agC rfl agN)))))), (by unfold opV; rw [if_neg it]; split <;> first | rfl | omega), (by first | assumption | omega | (simp at *; omega))⟩
  have f7 := c8
  try simp only [BS] at f7
  exact hM _ _ ⟨i.op, _, fR, a9, (agC rfl (agC rfl (agC rfl (agC rfl (agC rfl (agC rfl agN)))))), (by unfold opV; rw [if_neg it]; split <;> first | rfl | omega), (by first | assumption | omega | (simp at *; omega))⟩
 skip
 rintro ms lI ⟨oo, kO, b2, kl, hh, ho, ro⟩
 refine au _ hh (fun _ => ?_)
 clear hh
 replace hT := hT.mono b2
 replace A := A.mono b2
 refine aq 2 rfl ?_
 refine aa ?_
 refine wRo 1 0 [] 47 47 [] [(47, (.agg ⟨[(.bool false), (iI 0)]⟩))] trivial rfl fun _ => ?_
 refine aC (aR kl rfl) rfl rfl ?_
 rintro _ lK _ ⟨a7, rfl, (kn : HS _ _ _ [_, _, _, [(z, .cells [(iI oo), (iI 0), (iI 0), (iI 0), (iI on)] none false)], [(a7, .cells [(.bool false), (iI 0)] none false)]] _), _⟩
 refine aF (aw (q := 4) kn rfl rfl rfl rfl rfl rfl rfl rfl rfl) rfl ?_
 rintro _ lL _ ⟨(d2 : HS _ _ _ [_, _, _, _, _] _), _⟩
 refine ab 3 rfl ?_
 refine wR 1 [(1, .o (.bool (aD i.op).ra)), (4, .o (.bool (aD i.op).wa))] 48 53 [] [(53, (.bool ((aD i.op).ra || (aD i.op).wa)))] (vA (ql 4 2 (HS.hc d2 (i := 2) rfl) rfl rfl) (vA (fun (g1 : (aD i.op).ra = false) => (ql 4 3 (HS.hc d2 (i := 2) rfl) rfl rfl)) trivial)) rfl fun _ => ?_
 have Z := HS.snoc d2
 have Z : HS _ _ _ [_, _, _, _, _, []] _ := Z
 refine aY (fun f H' => ∃ (o2 : List InsT) (oa : Int) (tb : Bool) (tx : Int) (E : Option Addr) (N : Nat) (U : Fp) (F' : Fz), Fz.le kO F' ∧ HS (Base.of H []) F' H' [co, c0, c3, [(z, .cells [(iI oo), (iI oa), (iI 0), (iI 0), (iI on)] none false)], [(a7, .cells [(.bool tb), (iI tx)] none false)], U] R ∧ OS F' (.slice E o2.length N) o2 U ∧ aH f [(2, (.pointer (some ⟨b1, 0, none⟩))), (3, (.pointer (some ⟨b3, 0, none⟩))), (4, (.slice none 0 0)), (5, (.pointer (some ⟨b8, 0, none⟩))), (7, (.slice E o2.length N)), (8, (.pointer (some ⟨z, 0, none⟩))), (9, (.pointer (some ⟨a7, 0, none⟩)))] ∧ (o2 = aV (aD i.op) i a.locs) ∧ (oa = oA (aD i.op) i a.locs) ∧ ((aD i.op).wa = true → tb = (atV a.locs i.a).inS ∧ tx = (atV a.locs i.a).idx) ∧ (in64 oa) ∧ (in64 tx)) (fun b9 => ?_) ?_
 ·
  refine ap 1 0 (v := ((aD i.op).ra || (aD i.op).wa)) rfl rfl rfl rfl (fun c9 => ?_) (fun c9 => ?_)
  ·
   have f9 := c9
   try simp only [BS] at f9
   have my := hA (by assumption)
   refine aa ?_
   obtain ⟨ld, hG⟩ := Sv.view (SR.sv A Z)
   have k0 := LocT.fx (hG i.a.toNat)
   let f1 : Value := (.agg ⟨[(.bool (a.locs.getD i.a.toNat default).inS), (iI (a.locs.getD i.a.toNat default).idx)]⟩)
   refine wRo 6 0 [(1, .o (.slice an a.locs.length ay)), (3, .o (iI i.a)), (5, .o f1)] 54 59 [] [(59, f1)] (vA (ql 37 0 (HS.hc Z (i := 1) rfl) rfl rfl) (vA (ql 3 1 (HS.hc Z (i := 0) rfl) rfl rfl) (vA (Sv.ix (j := i.a) (SR.sv A Z) (by first | (dsimp only; omega) | omega) (by first | (dsimp only; omega) | omega)) (vA (qn 57 0 2 (LocT.vw (hG i.a.toNat) (by first | (dsimp only; omega) | omega)) rfl rfl rfl rfl) trivial)))) rfl fun _ => ?_
   refine aC (aR Z rfl) rfl rfl ?_
   rintro _ lN _ ⟨ih, rfl, (ko : HS _ _ _ [_, _, _, _, _, _, [(ih, .cells [(.bool false), (iI 0)] none false)]] _), _⟩
   refine aF (aw (q := 6) ko rfl rfl rfl rfl rfl rfl rfl rfl rfl) rfl ?_
   rintro _ lO _ ⟨(hp : HS _ _ _ [_, _, _, _, _, _, [(ih, .cells [(.bool (a.locs.getD i.a.toNat default).inS), (iI (a.locs.getD i.a.toNat default).idx)] none false)]] _), _⟩
   refine ab 2 rfl ?_
   refine aa ?_
   refine wRo 1 0 [(0, .o f1)] 60 60 [] [(60, f1)] (vA (qn 57 0 2 (HS.hc hp (i := 6) rfl) rfl rfl rfl rfl) trivial) rfl fun _ => ?_
   refine aF (aw (q := 4) hp rfl rfl rfl rfl rfl rfl rfl rfl rfl) rfl ?_
   rintro _ lP _ ⟨(hr : HS _ _ _ [_, _, _, _, [(a7, .cells [(.bool (a.locs.getD i.a.toNat default).inS), (iI (a.locs.getD i.a.toNat default).idx)] none false)], _, _] _), _⟩
   refine ab 2 rfl ?_
   refine aa ?_
   refine wRo 3 0 [(1, .o (iI (a.locs.getD i.a.toNat default).idx))] 61 63 [] [(62, (iI (a.locs.getD i.a.toNat default).idx)), (63, (.pointer (some ⟨z, 1, none⟩)))] (vA (ql 3 1 (HS.hc hr (i := 6) rfl) rfl rfl) trivial) rfl fun _ => ?_
   refine aF (aw (q := 3) hr rfl rfl rfl rfl rfl rfl rfl rfl rfl) rfl ?_
   rintro _ lQ _ ⟨(d3 : HS _ _ _ [_, _, _, [(z, .cells [(iI oo), (iI (a.locs.getD i.a.toNat default).idx), (iI 0), (iI 0), (iI on)] none false)], _, _, _] _), _⟩
   refine ab 2 rfl ?_
   refine wR 1 [(1, .o (.bool (a.locs.getD i.a.toNat default).inS))] 64 65 [] [(65, (.bool (a.locs.getD i.a.toNat default).inS))] (vA (ql 4 0 (HS.hc d3 (i := 6) rfl) rfl rfl) trivial) rfl fun _ => ?_
   refine ap 1 0 (v := (a.locs.getD i.a.toNat default).inS) rfl rfl rfl rfl (fun dd => ?_) (fun dd => ?_)
   ·
    have go := dd
    try simp only [BS] at go
    refine aa ?_
    refine wRo 1 0 [] 66 66 [] [(66, (.pointer (some ⟨z, 1, none⟩)))] trivial rfl fun _ => ?_
    refine aF (aw (q := 3) d3 rfl rfl rfl rfl rfl rfl rfl rfl rfl) rfl ?_
    rintro _ lR _ ⟨(bb : HS _ _ _ [_, _, _, [(z, .cells [(iI oo), (iI 5), (iI 0), (iI 0), (iI on)] none false)], _, _, _] _), _⟩
    refine ab 2 rfl ?_
    refine wR 1 [(1, .o (.bool (aD i.op).ra))] 67 68 [] [(68, (.bool (aD i.op).ra))] (vA (ql 4 2 (HS.hc bb (i := 2) rfl) rfl rfl) trivial) rfl fun _ => ?_
    refine ap 0 0 (v := (aD i.op).ra) rfl rfl rfl rfl (fun dk => ?_) (fun dk => ?_)
    ·
     have g0 := dk
     try simp only [BS] at g0
     refine aa ?_
     refine wRo 3 0 [(2, .o (iI (a.locs.getD i.a.toNat default).idx))] 69 71 [] [(69, (.slice none 0 0)), (71, (iI (a.locs.getD i.a.toNat default).idx))] (vA (ql 3 1 (HS.hc bb (i := 6) rfl) rfl rfl) trivial) rfl fun _ => ?_
     refine az (am rfl rfl rfl) rfl rfl (iu ex (5) (a.locs.getD i.a.toNat default).idx (HS.call bb) (by first | (dsimp only; omega) | omega) (by first | (dsimp only; omega) | omega) hT) ?_
     rintro _ lS ⟨mF, kQ, ja, d4, rfl, ky, kz, kA, kB, kC, rfl⟩
     replace d4 : HS _ _ _ [_, _, _, _, _, _, _] _ := HS.back bb rfl d4
     refine aC (aP (α := InsT) (ps := [(0, (.agg ⟨[(iI (⟨36, (5 : Int), 0, 0, (a.locs.getD i.a.toNat default).idx⟩ : InsT).op), (iI (⟨36, (5 : Int), 0, 0, (a.locs.getD i.a.toNat default).idx⟩ : InsT).a), (iI (⟨36, (5 : Int), 0, 0, (a.locs.getD i.a.toNat default).idx⟩ : InsT).b), (iI (⟨36, (5 : Int), 0, 0, (a.locs.getD i.a.toNat default).idx⟩ : InsT).c), (iI (⟨36, (5 : Int), 0, 0, (a.locs.getD i.a.toNat default).idx⟩ : InsT).n)]⟩))]) (cells := [(iI (⟨36, (5 : Int), 0, 0, (a.locs.getD i.a.toNat default).idx⟩ : InsT).op), (iI (⟨36, (5 : Int), 0, 0, (a.locs.getD i.a.toNat default).idx⟩ : InsT).a), (iI (⟨36, (5 : Int), 0, 0, (a.locs.getD i.a.toNat default).idx⟩ : InsT).b), (iI (⟨36, (5 : Int), 0, 0, (a.locs.getD i.a.toNat default).idx⟩ : InsT).c), (iI (⟨36, (5 : Int), 0, 0, (a.locs.getD i.a.toNat default).idx⟩ : InsT).n)]) ([(⟨36, (5 : Int), 0, 0, (a.locs.getD i.a.toNat default).idx⟩ : InsT)] : List InsT) d4 rfl rfl rfl (by kernel_rfl) ⟨[(iI (⟨36, (5 : Int), 0, 0, (a.locs.getD i.a.toNat default).idx⟩ : InsT).op), (iI (⟨36, (5 : Int), 0, 0, (a.locs.getD i.a.toNat default).idx⟩ : InsT).a), (iI (⟨36, (5 : Int), 0, 0, (a.locs.getD i.a.toNat default).idx⟩ : InsT).b), (iI (⟨36, (5 : Int), 0, 0, (a.locs.getD i.a.toNat default).idx⟩ : InsT).c), (iI (⟨36, (5 : Int), 0, 0, (a.locs.getD i.a.toNat default).idx⟩ : InsT).n)], [], rfl, ⟨rfl, by first | (dsimp only; omega) | omega, by first | (dsimp only; omega) | omega, by first | (dsimp only; omega) | omega, by first | (dsimp only; omega) | omega, by first | (dsimp only; omega) | omega⟩, rfl⟩ rfl) rfl rfl ?_
     rintro _ lT kW ⟨mm, mB, rfl, j1, (hu : HS _ _ _ [_, _, _, _, _, _, _, kW] _), _⟩
     refine aC (aW (α := InsT) (q := 5) (OS.nil : OS _ (.slice none 0 0) ([] : List InsT) []) hu rfl rfl rfl (OS.sv j1 hu (i := 7) rfl) rfl rfl rfl rfl rfl rfl rfl (by first | omega | (simp only [List.length_append, List.length_cons, List.length_nil]; omega))) rfl rfl ?_
     rintro _ lU hX ⟨f4, hQ, rfl, d1, (kp : HS _ _ _ [_, _, _, _, _, hX, _, _] _), _⟩
     have d1 : OS kQ (.slice f4 ([(⟨36, (5 : Int), 0, 0, (a.locs.getD i.a.toNat default).idx⟩ : InsT)] : List InsT).length hQ) ([(⟨36, (5 : Int), 0, 0, (a.locs.getD i.a.toNat default).idx⟩ : InsT)] : List InsT) hX := d1
     refine wa (.slice f4 ([(⟨36, (5 : Int), 0, 0, (a.locs.getD i.a.toNat default).idx⟩ : InsT)] : List InsT).length hQ) rfl rfl rfl ?_
     refine ab 0 rfl ?_
     exact b9 _ _ ⟨([(⟨36, (5 : Int), 0, 0, (a.locs.getD i.a.toNat default).idx⟩ : InsT)] : List InsT), 5, (a.locs.getD i.a.toNat default).inS, (a.locs.getD i.a.toNat default).idx, f4, hQ, hX, _, (ja), (HS.sub kp (List.sublist_append_left _ _)), d1, (agC rfl (agC rfl (agC rfl (agC rfl (agC rfl (agC rfl (agC rfl agN))))))), (by unfold aV; (repeat' split) <;> first | rfl | omega | simp_all), (by unfold oA fS; (repeat' split) <;> first | rfl | omega | simp_all), (by first | exact fun _ => ⟨rfl, rfl⟩ | exact fun h => absurd h (by simp_all)), (by first | assumption | omega | (simp at *; omega)), (by first | assumption | omega | (simp at *; omega))⟩
    have g0 := dk
    try simp only [BS] at g0
    exact b9 _ _ ⟨([] : List InsT), 5, (a.locs.getD i.a.toNat default).inS, (a.locs.getD i.a.toNat default).idx, none, 0, [], _, fR, (HS.sub bb (List.sublist_append_left _ _)), (OS.nil : OS _ (.slice none 0 0) ([] : List InsT) []), (agC rfl (agC rfl (agC rfl (agC rfl (agC rfl (agC rfl (agC rfl agN))))))), (by unfold aV; (repeat' split) <;> first | rfl | omega | simp_all), (by unfold oA fS; (repeat' split) <;> first | rfl | omega | simp_all), (by first | exact fun _ => ⟨rfl, rfl⟩ | exact fun h => absurd h (by simp_all)), (by first | assumption | omega | (simp at *; omega)), (by first | assumption | omega | (simp at *; omega))⟩
   have go := dd
   try simp only [BS] at go
   exact b9 _ _ ⟨([] : List InsT), (a.locs.getD i.a.toNat default).idx, (a.locs.getD i.a.toNat default).inS, (a.locs.getD i.a.toNat default).idx, none, 0, [], _, fR, (HS.sub d3 (List.sublist_append_left _ _)), (OS.nil : OS _ (.slice none 0 0) ([] : List InsT) []), (agC rfl (agC rfl (agC rfl (agC rfl (agC rfl (agC rfl (agC rfl agN))))))), (by unfold aV; (repeat' split) <;> first | rfl | omega | simp_all), (by unfold oA fS; (repeat' split) <;> first | rfl | omega | simp_all), (by first | exact fun _ => ⟨rfl, rfl⟩ | exact fun h => absurd h (by simp_all)), (by first | assumption | omega | (simp at *; omega)), (by first | assumption | omega | (simp at *; omega))⟩
  have f9 := c9
  try simp only [BS] at f9
  exact b9 _ _ ⟨([] : List InsT), 0, false, 0, none, 0, [], _, fR, Z, (OS.nil : OS _ (.slice none 0 0) ([] : List InsT) []), (agC rfl (agC rfl (agC rfl (agC rfl (agC rfl (agC rfl (agC rfl agN))))))), (by unfold aV; (repeat' split) <;> first | rfl | omega | simp_all), (by unfold oA fS; (repeat' split) <;> first | rfl | omega | simp_all), (by first | exact fun _ => ⟨rfl, rfl⟩ | exact fun h => absurd h (by simp_all)), (by first | assumption | omega | (simp at *; omega)), (by first | assumption | omega | (simp at *; omega))⟩
 skip
 rintro mu lM ⟨o2, oa, tb, tx, E, N, U, kP, b4, av, ad, hj, h2, ha, ht, ra, rx⟩
 refine au _ hj (fun _ => ?_)
 clear hj
 replace hT := hT.mono b4
 replace A := A.mono b4
 have n2 : o2.length ≤ 1 := by rw [h2]; exact lenA
 refine aq 3 rfl ?_
 refine wR 1 [(1, .o (.bool (aD i.op).rb))] 75 76 [] [(76, (.bool (aD i.op).rb))] (vA (ql 4 4 (HS.hc av (i := 2) rfl) rfl rfl) trivial) rfl fun _ => ?_
 let c4 : Fp := [(a7, .cells [(.bool tb), (iI tx)] none false)]
 refine aY (fun f H' => ∃ (o3 : List InsT) (ob : Int) (J : Option Addr) (T : Nat) (V : Fp) (F' : Fz), Fz.le kP F' ∧ HS (Base.of H []) F' H' [co, c0, c3, [(z, .cells [(iI oo), (iI oa), (iI ob), (iI 0), (iI on)] none false)], c4, V] R ∧ OS F' (.slice J o3.length T) o3 V ∧ aH f [(2, (.pointer (some ⟨b1, 0, none⟩))), (3, (.pointer (some ⟨b3, 0, none⟩))), (4, (.slice none 0 0)), (5, (.pointer (some ⟨b8, 0, none⟩))), (7, (.slice J o3.length T)), (8, (.pointer (some ⟨z, 0, none⟩))), (9, (.pointer (some ⟨a7, 0, none⟩)))] ∧ (o3 = o2 ++ bV (aD i.op) i a.locs) ∧ (ob = oB (aD i.op) i a.locs) ∧ (in64 ob)) (fun e2 => ?_) ?_
 ·
  refine ap 1 0 (v := (aD i.op).rb) rfl rfl rfl rfl (fun dl => ?_) (fun dl => ?_)
  ·
   have g3 := dl
   try simp only [BS] at g3
   have mz := hB (by assumption)
   refine aa ?_
   obtain ⟨lf, hH⟩ := Sv.view (SR.sv A av)
   have k3 := LocT.fx (hH i.b.toNat)
   let i3 : Value := (.agg ⟨[(.bool (a.locs.getD i.b.toNat default).inS), (iI (a.locs.getD i.b.toNat default).idx)]⟩)
   refine wRo 6 0 [(1, .o (.slice an a.locs.length ay)), (3, .o (iI i.b)), (5, .o i3)] 77 82 [] [(82, i3)] (vA (ql 37 0 (HS.hc av (i := 1) rfl) rfl rfl) (vA (ql 3 2 (HS.hc av (i := 0) rfl) rfl rfl) (vA (Sv.ix (j := i.b) (SR.sv A av) (by first | (dsimp only; omega) | omega) (by first | (dsimp only; omega) | omega)) (vA (qn 57 0 2 (LocT.vw (hH i.b.toNat) (by first | (dsimp only; omega) | omega)) rfl rfl rfl rfl) trivial)))) rfl fun _ => ?_
   refine aC (aR av rfl) rfl rfl ?_
   rintro _ lW _ ⟨ii, rfl, (kt : HS _ _ _ [_, _, _, [(z, .cells [(iI oo), (iI oa), (iI 0), (iI 0), (iI on)] none false)], c4, U, [(ii, .cells [(.bool false), (iI 0)] none false)]] _), _⟩
   refine aF (aw (q := 6) kt rfl rfl rfl rfl rfl rfl rfl rfl rfl) rfl ?_
   rintro _ lX _ ⟨(hw : HS _ _ _ [_, _, _, _, _, _, [(ii, .cells [(.bool (a.locs.getD i.b.toNat default).inS), (iI (a.locs.getD i.b.toNat default).idx)] none false)]] _), _⟩
   refine ab 2 rfl ?_
   refine aa ?_
   refine wRo 3 0 [(1, .o (iI (a.locs.getD i.b.toNat default).idx))] 83 85 [] [(84, (iI (a.locs.getD i.b.toNat default).idx)), (85, (.pointer (some ⟨z, 2, none⟩)))] (vA (ql 3 1 (HS.hc hw (i := 6) rfl) rfl rfl) trivial) rfl fun _ => ?_
   refine aF (aw (q := 3) hw rfl rfl rfl rfl rfl rfl rfl rfl rfl) rfl ?_
   rintro _ lY _ ⟨(em : HS _ _ _ [_, _, _, [(z, .cells [(iI oo), (iI oa), (iI (a.locs.getD i.b.toNat default).idx), (iI 0), (iI on)] none false)], _, _, _] _), _⟩
   refine ab 2 rfl ?_
   refine wR 1 [(1, .o (.bool (a.locs.getD i.b.toNat default).inS))] 86 87 [] [(87, (.bool (a.locs.getD i.b.toNat default).inS))] (vA (ql 4 0 (HS.hc em (i := 6) rfl) rfl rfl) trivial) rfl fun _ => ?_
   refine ap 1 0 (v := (a.locs.getD i.b.toNat default).inS) rfl rfl rfl rfl (fun dn => ?_) (fun dn => ?_)
   ·
    have g4 := dn
    try simp only [BS] at g4
    refine aa ?_
    refine wRo 1 0 [] 88 88 [] [(88, (.pointer (some ⟨z, 2, none⟩)))] trivial rfl fun _ => ?_
    refine aF (aw (q := 3) em rfl rfl rfl rfl rfl rfl rfl rfl rfl) rfl ?_
    rintro _ lZ _ ⟨(es : HS _ _ _ [_, _, _, [(z, .cells [(iI oo), (iI oa), (iI 6), (iI 0), (iI on)] none false)], _, _, _] _), _⟩
    refine ab 1 rfl ?_
    refine aa ?_
    refine wRo 3 0 [(2, .o (iI (a.locs.getD i.b.toNat default).idx))] 89 91 [] [(89, (.slice E o2.length N)), (91, (iI (a.locs.getD i.b.toNat default).idx))] (vA (ql 3 1 (HS.hc es (i := 6) rfl) rfl rfl) trivial) rfl fun _ => ?_
    refine az (am rfl rfl rfl) rfl rfl (iu ex (6) (a.locs.getD i.b.toNat default).idx (HS.call es) (by first | (dsimp only; omega) | omega) (by first | (dsimp only; omega) | omega) hT) ?_
    rintro _ l0 ⟨mG, lA, he, et, rfl, kD, kE, kF, kG, kH, rfl⟩
    replace et : HS _ _ _ [_, _, _, _, _, _, _] _ := HS.back es rfl et
    replace ad := ad.mono he
    refine aC (aP (α := InsT) (ps := [(0, (.agg ⟨[(iI (⟨36, (6 : Int), 0, 0, (a.locs.getD i.b.toNat default).idx⟩ : InsT).op), (iI (⟨36, (6 : Int), 0, 0, (a.locs.getD i.b.toNat default).idx⟩ : InsT).a), (iI (⟨36, (6 : Int), 0, 0, (a.locs.getD i.b.toNat default).idx⟩ : InsT).b), (iI (⟨36, (6 : Int), 0, 0, (a.locs.getD i.b.toNat default).idx⟩ : InsT).c), (iI (⟨36, (6 : Int), 0, 0, (a.locs.getD i.b.toNat default).idx⟩ : InsT).n)]⟩))]) (cells := [(iI (⟨36, (6 : Int), 0, 0, (a.locs.getD i.b.toNat default).idx⟩ : InsT).op), (iI (⟨36, (6 : Int), 0, 0, (a.locs.getD i.b.toNat default).idx⟩ : InsT).a), (iI (⟨36, (6 : Int), 0, 0, (a.locs.getD i.b.toNat default).idx⟩ : InsT).b), (iI (⟨36, (6 : Int), 0, 0, (a.locs.getD i.b.toNat default).idx⟩ : InsT).c), (iI (⟨36, (6 : Int), 0, 0, (a.locs.getD i.b.toNat default).idx⟩ : InsT).n)]) ([(⟨36, (6 : Int), 0, 0, (a.locs.getD i.b.toNat default).idx⟩ : InsT)] : List InsT) et rfl rfl rfl (by kernel_rfl) ⟨[(iI (⟨36, (6 : Int), 0, 0, (a.locs.getD i.b.toNat default).idx⟩ : InsT).op), (iI (⟨36, (6 : Int), 0, 0, (a.locs.getD i.b.toNat default).idx⟩ : InsT).a), (iI (⟨36, (6 : Int), 0, 0, (a.locs.getD i.b.toNat default).idx⟩ : InsT).b), (iI (⟨36, (6 : Int), 0, 0, (a.locs.getD i.b.toNat default).idx⟩ : InsT).c), (iI (⟨36, (6 : Int), 0, 0, (a.locs.getD i.b.toNat default).idx⟩ : InsT).n)], [], rfl, ⟨rfl, by first | (dsimp only; omega) | omega, by first | (dsimp only; omega) | omega, by first | (dsimp only; omega) | omega, by first | (dsimp only; omega) | omega, by first | (dsimp only; omega) | omega⟩, rfl⟩ rfl) rfl rfl ?_
    rintro _ l1 kX ⟨mn, mC, rfl, j2, (hz : HS _ _ _ [_, _, _, _, _, _, _, kX] _), _⟩
    refine aC (aW (α := InsT) (q := 5) ad hz rfl rfl rfl (OS.sv j2 hz (i := 7) rfl) rfl rfl rfl rfl rfl rfl rfl (by first | omega | (simp only [List.length_append, List.length_cons, List.length_nil]; omega))) rfl rfl ?_
    rintro _ l2 i1 ⟨h8, iv, rfl, kc, (ku : HS _ _ _ [_, _, _, _, _, i1, _, _] _), _⟩
    refine wa (.slice h8 (o2 ++ ([(⟨36, (6 : Int), 0, 0, (a.locs.getD i.b.toNat default).idx⟩ : InsT)] : List InsT)).length iv) rfl rfl rfl ?_
    refine ab 0 rfl ?_
    exact e2 _ _ ⟨o2 ++ ([(⟨36, (6 : Int), 0, 0, (a.locs.getD i.b.toNat default).idx⟩ : InsT)] : List InsT), 6, h8, iv, i1, _, (he), (HS.sub ku (List.sublist_append_left _ _)), kc, (agC rfl (agC rfl (agC rfl (agC rfl (agC rfl (agC rfl (agC rfl agN))))))), (by unfold bV; (repeat' split) <;> first | rfl | omega | simp_all), (by unfold oB fS; (repeat' split) <;> first | rfl | omega | simp_all), (by first | assumption | omega | (simp at *; omega))⟩
   have g4 := dn
   try simp only [BS] at g4
   exact e2 _ _ ⟨o2, (a.locs.getD i.b.toNat default).idx, E, N, U, _, fR, (HS.sub em (List.sublist_append_left _ _)), ad, (agC rfl (agC rfl (agC rfl (agC rfl (agC rfl (agC rfl (agC rfl agN))))))), (by unfold bV; (repeat' split) <;> first | rfl | omega | simp_all), (by unfold oB fS; (repeat' split) <;> first | rfl | omega | simp_all), (by first | assumption | omega | (simp at *; omega))⟩
  have g3 := dl
  try simp only [BS] at g3
  exact e2 _ _ ⟨o2, 0, E, N, U, _, fR, av, ad, (agC rfl (agC rfl (agC rfl (agC rfl (agC rfl (agC rfl (agC rfl agN))))))), (by unfold bV; (repeat' split) <;> first | rfl | omega | simp_all), (by unfold oB fS; (repeat' split) <;> first | rfl | omega | simp_all), (by first | assumption | omega | (simp at *; omega))⟩
 skip
 rintro mw lV ⟨o3, ob, J, T, V, kR, b6, ax, ag, hk, h3, hb, rb⟩
 refine au _ hk (fun _ => ?_)
 clear hk
 replace hT := hT.mono b6
 replace A := A.mono b6
 have n3 : o3.length ≤ 2 := by rw [h3, List.length_append]; exact Nat.add_le_add n2 lenB
 refine aq 3 rfl ?_
 refine wR 1 [(1, .o (iI (aD i.op).form))] 95 97 [] [(97, (.bool ((aD i.op).form == 4)))] (vA (ql 3 1 (HS.hc ax (i := 2) rfl) rfl rfl) trivial) rfl fun _ => ?_
 refine aY (fun f H' => ∃ (o4 : List InsT) (oc : Int) (a0 : Option Addr) (a1 : Nat) (a2 : Fp) (F' : Fz), Fz.le kR F' ∧ HS (Base.of H []) F' H' [co, c0, c3, [(z, .cells [(iI oo), (iI oa), (iI ob), (iI oc), (iI on)] none false)], c4, a2] R ∧ OS F' (.slice a0 o4.length a1) o4 a2 ∧ aH f [(4, (.slice none 0 0)), (5, (.pointer (some ⟨b8, 0, none⟩))), (7, (.slice a0 o4.length a1)), (8, (.pointer (some ⟨z, 0, none⟩))), (9, (.pointer (some ⟨a7, 0, none⟩)))] ∧ (o4 = o3 ++ cV (aD i.op) i a.locs) ∧ (oc = oC (aD i.op) i a.locs) ∧ (in64 oc)) (fun e3 => ?_) ?_
 ·
  refine ap 1 0 (v := ((aD i.op).form == 4)) rfl rfl rfl rfl (fun ds => ?_) (fun ds => ?_)
  ·
   have g5 := ds
   try simp only [BS] at g5
   have mA := hC (by assumption)
   refine aa ?_
   obtain ⟨lh, hI⟩ := Sv.view (SR.sv A ax)
   have k4 := LocT.fx (hI i.c.toNat)
   let hY : Value := (.agg ⟨[(.bool (a.locs.getD i.c.toNat default).inS), (iI (a.locs.getD i.c.toNat default).idx)]⟩)
   refine wRo 6 0 [(1, .o (.slice an a.locs.length ay)), (3, .o (iI i.c)), (5, .o hY)] 98 103 [] [(103, hY)] (vA (ql 37 0 (HS.hc ax (i := 1) rfl) rfl rfl) (vA (ql 3 3 (HS.hc ax (i := 0) rfl) rfl rfl) (vA (Sv.ix (j := i.c) (SR.sv A ax) (by first | (dsimp only; omega) | omega) (by first | (dsimp only; omega) | omega)) (vA (qn 57 0 2 (LocT.vw (hI i.c.toNat) (by first | (dsimp only; omega) | omega)) rfl rfl rfl rfl) trivial)))) rfl fun _ => ?_
   refine aC (aR ax rfl) rfl rfl ?_
   rintro _ l4 _ ⟨ik, rfl, (kv : HS _ _ _ [_, _, _, [(z, .cells [(iI oo), (iI oa), (iI ob), (iI 0), (iI on)] none false)], c4, V, [(ik, .cells [(.bool false), (iI 0)] none false)]] _), _⟩
   refine aF (aw (q := 6) kv rfl rfl rfl rfl rfl rfl rfl rfl rfl) rfl ?_
   rintro _ l5 _ ⟨(hE : HS _ _ _ [_, _, _, _, _, _, [(ik, .cells [(.bool (a.locs.getD i.c.toNat default).inS), (iI (a.locs.getD i.c.toNat default).idx)] none false)]] _), _⟩
   refine ab 2 rfl ?_
   refine aa ?_
   refine wRo 3 0 [(1, .o (iI (a.locs.getD i.c.toNat default).idx))] 104 106 [] [(105, (iI (a.locs.getD i.c.toNat default).idx)), (106, (.pointer (some ⟨z, 3, none⟩)))] (vA (ql 3 1 (HS.hc hE (i := 6) rfl) rfl rfl) trivial) rfl fun _ => ?_
   refine aF (aw (q := 3) hE rfl rfl rfl rfl rfl rfl rfl rfl rfl) rfl ?_
   rintro _ l6 _ ⟨(ez : HS _ _ _ [_, _, _, [(z, .cells [(iI oo), (iI oa), (iI ob), (iI (a.locs.getD i.c.toNat default).idx), (iI on)] none false)], _, _, _] _), _⟩
   refine ab 2 rfl ?_
   refine wR 1 [(1, .o (.bool (a.locs.getD i.c.toNat default).inS))] 107 108 [] [(108, (.bool (a.locs.getD i.c.toNat default).inS))] (vA (ql 4 0 (HS.hc ez (i := 6) rfl) rfl rfl) trivial) rfl fun _ => ?_
   refine ap 1 0 (v := (a.locs.getD i.c.toNat default).inS) rfl rfl rfl rfl (fun dt => ?_) (fun dt => ?_)
   ·
    have g6 := dt
    try simp only [BS] at g6
    refine aa ?_
    refine wRo 1 0 [] 109 109 [] [(109, (.pointer (some ⟨z, 3, none⟩)))] trivial rfl fun _ => ?_
    refine aF (aw (q := 3) ez rfl rfl rfl rfl rfl rfl rfl rfl rfl) rfl ?_
    rintro _ l7 _ ⟨(e0 : HS _ _ _ [_, _, _, [(z, .cells [(iI oo), (iI oa), (iI ob), (iI 7), (iI on)] none false)], _, _, _] _), _⟩
    refine ab 1 rfl ?_
    refine aa ?_
    refine wRo 3 0 [(2, .o (iI (a.locs.getD i.c.toNat default).idx))] 110 112 [] [(110, (.slice J o3.length T)), (112, (iI (a.locs.getD i.c.toNat default).idx))] (vA (ql 3 1 (HS.hc e0 (i := 6) rfl) rfl rfl) trivial) rfl fun _ => ?_
    refine az (am rfl rfl rfl) rfl rfl (iu ex (7) (a.locs.getD i.c.toNat default).idx (HS.call e0) (by first | (dsimp only; omega) | omega) (by first | (dsimp only; omega) | omega) hT) ?_
    rintro _ l8 ⟨mH, lC, hf, e1, rfl, kI, kJ, kK, kL, kM, rfl⟩
    replace e1 : HS _ _ _ [_, _, _, _, _, _, _] _ := HS.back e0 rfl e1
    replace ag := ag.mono hf
    refine aC (aP (α := InsT) (ps := [(0, (.agg ⟨[(iI (⟨36, (7 : Int), 0, 0, (a.locs.getD i.c.toNat default).idx⟩ : InsT).op), (iI (⟨36, (7 : Int), 0, 0, (a.locs.getD i.c.toNat default).idx⟩ : InsT).a), (iI (⟨36, (7 : Int), 0, 0, (a.locs.getD i.c.toNat default).idx⟩ : InsT).b), (iI (⟨36, (7 : Int), 0, 0, (a.locs.getD i.c.toNat default).idx⟩ : InsT).c), (iI (⟨36, (7 : Int), 0, 0, (a.locs.getD i.c.toNat default).idx⟩ : InsT).n)]⟩))]) (cells := [(iI (⟨36, (7 : Int), 0, 0, (a.locs.getD i.c.toNat default).idx⟩ : InsT).op), (iI (⟨36, (7 : Int), 0, 0, (a.locs.getD i.c.toNat default).idx⟩ : InsT).a), (iI (⟨36, (7 : Int), 0, 0, (a.locs.getD i.c.toNat default).idx⟩ : InsT).b), (iI (⟨36, (7 : Int), 0, 0, (a.locs.getD i.c.toNat default).idx⟩ : InsT).c), (iI (⟨36, (7 : Int), 0, 0, (a.locs.getD i.c.toNat default).idx⟩ : InsT).n)]) ([(⟨36, (7 : Int), 0, 0, (a.locs.getD i.c.toNat default).idx⟩ : InsT)] : List InsT) e1 rfl rfl rfl (by kernel_rfl) ⟨[(iI (⟨36, (7 : Int), 0, 0, (a.locs.getD i.c.toNat default).idx⟩ : InsT).op), (iI (⟨36, (7 : Int), 0, 0, (a.locs.getD i.c.toNat default).idx⟩ : InsT).a), (iI (⟨36, (7 : Int), 0, 0, (a.locs.getD i.c.toNat default).idx⟩ : InsT).b), (iI (⟨36, (7 : Int), 0, 0, (a.locs.getD i.c.toNat default).idx⟩ : InsT).c), (iI (⟨36, (7 : Int), 0, 0, (a.locs.getD i.c.toNat default).idx⟩ : InsT).n)], [], rfl, ⟨rfl, by first | (dsimp only; omega) | omega, by first | (dsimp only; omega) | omega, by first | (dsimp only; omega) | omega, by first | (dsimp only; omega) | omega, by first | (dsimp only; omega) | omega⟩, rfl⟩ rfl) rfl rfl ?_
    rintro _ l9 kY ⟨mp, mD, rfl, kd, (hF : HS _ _ _ [_, _, _, _, _, _, _, kY] _), _⟩
    refine aC (aW (α := InsT) (q := 5) ag hF rfl rfl rfl (OS.sv kd hF (i := 7) rfl) rfl rfl rfl rfl rfl rfl rfl (by first | omega | (simp only [List.length_append, List.length_cons, List.length_nil]; omega))) rfl rfl ?_
    rintro _ mk i2 ⟨ib, iz, rfl, kg, (kw : HS _ _ _ [_, _, _, _, _, i2, _, _] _), _⟩
    refine wa (.slice ib (o3 ++ ([(⟨36, (7 : Int), 0, 0, (a.locs.getD i.c.toNat default).idx⟩ : InsT)] : List InsT)).length iz) rfl rfl rfl ?_
    refine ab 0 rfl ?_
    exact e3 _ _ ⟨o3 ++ ([(⟨36, (7 : Int), 0, 0, (a.locs.getD i.c.toNat default).idx⟩ : InsT)] : List InsT), 7, ib, iz, i2, _, (hf), (HS.sub kw (List.sublist_append_left _ _)), kg, (agC rfl (agC rfl (agC rfl (agC rfl (agC rfl agN))))), (by unfold cV; (repeat' split) <;> first | rfl | omega | simp_all), (by unfold oC fS; (repeat' split) <;> first | rfl | omega | simp_all), (by first | assumption | omega | (simp at *; omega))⟩
   have g6 := dt
   try simp only [BS] at g6
   exact e3 _ _ ⟨o3, (a.locs.getD i.c.toNat default).idx, J, T, V, _, fR, (HS.sub ez (List.sublist_append_left _ _)), ag, (agC rfl (agC rfl (agC rfl (agC rfl (agC rfl agN))))), (by unfold cV; (repeat' split) <;> first | rfl | omega | simp_all), (by unfold oC fS; (repeat' split) <;> first | rfl | omega | simp_all), (by first | assumption | omega | (simp at *; omega))⟩
  have g5 := ds
  try simp only [BS] at g5
  exact e3 _ _ ⟨o3, 0, J, T, V, _, fR, ax, ag, (agC rfl (agC rfl (agC rfl (agC rfl (agC rfl agN))))), (by unfold cV; (repeat' split) <;> first | rfl | omega | simp_all), (by unfold oC fS; (repeat' split) <;> first | rfl | omega | simp_all), (by first | assumption | omega | (simp at *; omega))⟩
 skip
 rintro mx l3 ⟨o4, oc, a0, a1, a2, lB, dv, hD, hS, hl, h4, hc, rc⟩
 refine au _ hl (fun _ => ?_)
 clear hl
 replace hT := hT.mono dv
 have n4 : o4.length ≤ 3 := by rw [h4, List.length_append]; exact Nat.add_le_add n3 lenC
 refine aq 2 rfl ?_
 refine aa ?_
 let e5 : Value := (.agg ⟨[(iI oo), (iI oa), (iI ob), (iI oc), (iI on)]⟩)
 refine wRo 2 0 [(1, .o e5)] 116 117 [] [(116, (.slice a0 o4.length a1)), (117, e5)] (vA (qn 50 0 5 (HS.hc hD (i := 3) rfl) rfl rfl rfl rfl) trivial) rfl fun _ => ?_
 refine aC (aP (α := InsT) (ps := [(0, e5)]) (cells := [(iI oo), (iI oa), (iI ob), (iI oc), (iI on)]) ([(⟨oo, oa, ob, oc, on⟩ : InsT)] : List InsT) hD rfl rfl rfl (by kernel_rfl) ⟨[(iI oo), (iI oa), (iI ob), (iI oc), (iI on)], [], rfl, ⟨rfl, by first | (dsimp only; omega) | omega, by first | (dsimp only; omega) | omega, by first | (dsimp only; omega) | omega, by first | (dsimp only; omega) | omega, by first | (dsimp only; omega) | omega⟩, rfl⟩ rfl) rfl rfl ?_
 rintro _ k7 kZ ⟨mq, mE, rfl, ki, (fi : HS _ _ _ [_, _, _, [(z, .cells [(iI oo), (iI oa), (iI ob), (iI oc), (iI on)] none false)], c4, a2, kZ] _), _⟩
 refine aC (aW (α := InsT) (q := 5) hS fi rfl rfl rfl (OS.sv ki fi (i := 6) rfl) rfl rfl rfl rfl rfl rfl rfl (by first | omega | (simp only [List.length_append, List.length_cons, List.length_nil]; omega))) rfl rfl ?_
 rintro _ k8 hV ⟨bk, cc, rfl, a6, (al : HS _ _ _ [_, _, _, _, _, hV, _] _), _⟩
 refine wa (.slice bk (o4 ++ ([(⟨oo, oa, ob, oc, on⟩ : InsT)] : List InsT)).length cc) rfl rfl rfl ?_
 refine ab 3 rfl ?_
 refine wR 1 [(1, .o (.bool (aD i.op).wa)), (4, .o (.bool tb))] 120 125 [] [(125, (.bool ((aD i.op).wa && tb)))] (vA (ql 4 3 (HS.hc al (i := 2) rfl) rfl rfl) (vA (fun (g1 : (aD i.op).wa = true) => (ql 4 0 (HS.hc al (i := 4) rfl) rfl rfl)) trivial)) rfl fun _ => ?_
 refine ap 0 2 (v := ((aD i.op).wa && tb)) rfl rfl rfl rfl (fun bz => ?_) (fun bz => ?_)
 ·
  have c6 := bz
  try simp only [BS] at c6
  refine aa ?_
  refine wRo 3 0 [(2, .o (iI tx))] 126 128 [] [(126, (.slice bk (o4 ++ ([(⟨oo, oa, ob, oc, on⟩ : InsT)] : List InsT)).length cc)), (128, (iI tx))] (vA (ql 3 1 (HS.hc al (i := 4) rfl) rfl rfl) trivial) rfl fun _ => ?_
  refine az (am rfl rfl rfl) rfl rfl (jD ex (5) tx (HS.call al) (by first | (dsimp only; omega) | omega) (by first | (dsimp only; omega) | omega) hT) ?_
  rintro _ k9 ⟨lz, k5, e6, b7, rfl, jb, jc, jq, jw, j0, rfl⟩
  replace b7 : HS _ _ _ [_, _, _, _, _, _, _] _ := HS.back al rfl b7
  replace a6 := a6.mono e6
  refine aC (aP (α := InsT) (ps := [(0, (.agg ⟨[(iI (⟨37, (5 : Int), 0, 0, tx⟩ : InsT).op), (iI (⟨37, (5 : Int), 0, 0, tx⟩ : InsT).a), (iI (⟨37, (5 : Int), 0, 0, tx⟩ : InsT).b), (iI (⟨37, (5 : Int), 0, 0, tx⟩ : InsT).c), (iI (⟨37, (5 : Int), 0, 0, tx⟩ : InsT).n)]⟩))]) (cells := [(iI (⟨37, (5 : Int), 0, 0, tx⟩ : InsT).op), (iI (⟨37, (5 : Int), 0, 0, tx⟩ : InsT).a), (iI (⟨37, (5 : Int), 0, 0, tx⟩ : InsT).b), (iI (⟨37, (5 : Int), 0, 0, tx⟩ : InsT).c), (iI (⟨37, (5 : Int), 0, 0, tx⟩ : InsT).n)]) ([(⟨37, (5 : Int), 0, 0, tx⟩ : InsT)] : List InsT) b7 rfl rfl rfl (by kernel_rfl) ⟨[(iI (⟨37, (5 : Int), 0, 0, tx⟩ : InsT).op), (iI (⟨37, (5 : Int), 0, 0, tx⟩ : InsT).a), (iI (⟨37, (5 : Int), 0, 0, tx⟩ : InsT).b), (iI (⟨37, (5 : Int), 0, 0, tx⟩ : InsT).c), (iI (⟨37, (5 : Int), 0, 0, tx⟩ : InsT).n)], [], rfl, ⟨rfl, by first | (dsimp only; omega) | omega, by first | (dsimp only; omega) | omega, by first | (dsimp only; omega) | omega, by first | (dsimp only; omega) | omega, by first | (dsimp only; omega) | omega⟩, rfl⟩ rfl) rfl rfl ?_
  rintro _ la kx ⟨lc, lu, rfl, h5, (f0 : HS _ _ _ [_, _, _, _, _, _, _, kx] _), _⟩
  refine aC (aW (α := InsT) (q := 5) a6 f0 rfl rfl rfl (OS.sv h5 f0 (i := 7) rfl) rfl rfl rfl rfl rfl rfl rfl (by first | omega | (simp only [List.length_append, List.length_cons, List.length_nil]; omega))) rfl rfl ?_
  rintro _ lb hW ⟨c5, e4, rfl, h6, (h7 : HS _ _ _ [_, _, _, _, _, hW, _, _] _), _⟩
  refine wa (.slice c5 ((o4 ++ ([(⟨oo, oa, ob, oc, on⟩ : InsT)] : List InsT)) ++ ([(⟨37, (5 : Int), 0, 0, tx⟩ : InsT)] : List InsT)).length e4) rfl rfl rfl ?_
  refine ab 2 rfl ?_
  refine wR 1 [] 4 4 [132] [(4, (.slice c5 ((o4 ++ ([(⟨oo, oa, ob, oc, on⟩ : InsT)] : List InsT)) ++ ([(⟨37, (5 : Int), 0, 0, tx⟩ : InsT)] : List InsT)).length e4))] trivial rfl fun _ => ?_
  refine ah ⟨.inr rfl, _, rfl, c5, e4, (o4 ++ ([(⟨oo, oa, ob, oc, on⟩ : InsT)] : List InsT)) ++ ([(⟨37, (5 : Int), 0, 0, tx⟩ : InsT)] : List InsT), hW, _, (fT (fT (fT (fT (fT (fT (fd) b0) b2) b4) b6) dv) e6), (HS.only h7 (i := 5) rfl), rfl, h6, (by first | exact oth1 h2 h3 h4 ho ha hb hc hn ht (by assumption) | exact oth0 h2 h3 h4 ho ha hb hc hn ht (by assumption))⟩
 have c6 := bz
 try simp only [BS] at c6
 refine wR 1 [] 4 4 [132] [(4, (.slice bk (o4 ++ ([(⟨oo, oa, ob, oc, on⟩ : InsT)] : List InsT)).length cc))] trivial rfl fun _ => ?_
 refine ah ⟨.inr rfl, _, rfl, bk, cc, o4 ++ ([(⟨oo, oa, ob, oc, on⟩ : InsT)] : List InsT), hV, _, (fT (fT (fT (fT (fT (fd) b0) b2) b4) b6) dv), (HS.only al (i := 5) rfl), rfl, a6, (by first | exact oth1 h2 h3 h4 ho ha hb hc hn ht (by assumption) | exact oth0 h2 h3 h4 ho ha hb hc hn ht (by assumption))⟩
set_option maxHeartbeats 1000000 in
theorem expand_c (ex : FuncId) {a4 : Option Addr} {a6 : Nat} (iv : VInT) {cc : Option Addr} {ch : Nat} {E : Option Addr} {J : Nat} (a : AllT) {F : Fz} {H : Heap} {R : List Fp} (hs : HS (.of H []) F H [] R) (nv : in64 iv.i.op) (nw : in64 iv.i.a) (nx : in64 iv.i.b) (ny : in64 iv.i.c) (nz : in64 iv.i.n) (al : SR F (.slice a4 iv.args.length a6) iv.args) (N : SR F (.slice E a.locs.length J) a.locs) (dt : SR F (.slice cc a.spi.length ch) a.spi) (n5 : in64 a.slots) (hT : TB 37 tabC F) (hargs : iv.args.length ≤ 1048576) : C Tryd.prog 1 (KT 60 ex 37 tabC) 42 [(.agg ⟨[(iI iv.i.op), (iI iv.i.a), (iI iv.i.b), (iI iv.i.c), (iI iv.i.n), (.slice a4 iv.args.length a6)]⟩), (.agg ⟨[(.slice E a.locs.length J), (.slice cc a.spi.length ch), (iI a.slots)]⟩)] H fun v H' => ∃ (ar : Option Addr) (kr : Nat) (r : List InsT) (p : Fp) (F' : Fz), Fz.le F F' ∧ HS (.of H []) F' H' [p] R ∧ v = .slice ar r.length kr ∧ OS F' (.slice ar r.length kr) r p ∧ r = expV iv a.locs := by
 have hsl := sr_len (v := iv)
 refine aJ Tryd.func42 rfl rfl ?_
 refine aq 1 rfl ?_
 refine aa ?_
 refine aC (be hs rfl rfl) rfl rfl ?_
 rintro _ H2 _ ⟨b1, rfl, (nc : HS _ _ _ [[(b1, .cells [(iI iv.i.op), (iI iv.i.a), (iI iv.i.b), (iI iv.i.c), (iI iv.i.n), (.slice a4 iv.args.length a6)] none false)]] _), _⟩
 refine aC (be nc rfl rfl) rfl rfl ?_
 rintro _ H4 _ ⟨b3, rfl, (kY : HS _ _ _ [_, [(b3, .cells [(.slice E a.locs.length J), (.slice cc a.spi.length ch), (iI a.slots)] none false)]] _), _⟩
 refine wa (.slice none 0 0) rfl rfl rfl ?_
 refine ab 2 rfl ?_
 refine aa ?_
 let c8 : Value := (.agg ⟨[(iI iv.i.op), (iI iv.i.a), (iI iv.i.b), (iI iv.i.c), (iI iv.i.n)]⟩)
 refine wRo 2 0 [(1, .o c8)] 14 15 [] [(15, c8)] (vA (qn 50 0 5 (HS.hc kY (i := 0) rfl) rfl rfl rfl rfl) trivial) rfl fun _ => ?_
 refine aC (aR kY rfl) rfl rfl ?_
 rintro _ H7 _ ⟨b6, rfl, (ne : HS _ _ _ [_, _, [(b6, .cells [(iI 0), (iI 0), (iI 0), (iI 0), (iI 0)] none false)]] _), _⟩
 refine aF (aw (q := 2) ne rfl rfl rfl rfl rfl rfl rfl rfl rfl) rfl ?_
 rintro _ H8 _ ⟨(c6 : HS _ _ _ [_, _, [(b6, .cells [(iI iv.i.op), (iI iv.i.a), (iI iv.i.b), (iI iv.i.c), (iI iv.i.n)] none false)]] _), _⟩
 refine ab 3 rfl ?_
 refine wR 1 [(1, .o (iI iv.i.op)), (2, .o (.bool (alV iv.i.op)))] 16 19 [] [(19, (.bool (!(alV iv.i.op))))] (vA (ql 3 0 (HS.hc c6 (i := 2) rfl) rfl rfl) (vA (lalw_c_q ex iv.i.op H8) trivial)) rfl fun _ => ?_
 refine ap 1 3 (v := (!(alV iv.i.op))) rfl rfl rfl rfl (fun e6 => ?_) (fun e6 => ?_)
 ·
  have g9 := e6
  try simp only [BS] at g9
  refine wR 1 [] 4 4 [] [(4, (.slice none 0 0))] trivial rfl fun _ => ?_
  refine ah ⟨.inr rfl, _, rfl, none, 0, ([] : List InsT), [], _, fR, (HS.cons (HS.forget c6)), rfl, (OS.nil : OS _ _ _ []), (by exact exp_no (fun h => by simp_all))⟩
 have g9 := e6
 try simp only [BS] at g9
 have hal := g9
 refine aQ rfl ?_
 let ld : Value := (.agg ⟨[(iI iv.i.op), (iI iv.i.a), (iI iv.i.b), (iI iv.i.c), (iI iv.i.n), (.slice a4 iv.args.length a6)]⟩)
 refine aB (v := ld) (id := .l b1) (bQ (i := 0) rfl rfl rfl (HS.hc c6.log0 (i := 0) rfl) rfl rfl rfl) rfl rfl (bg rfl) trivial ?_
 refine aX (W := []) (am rfl rfl rfl) rfl rfl rfl (ma.vreads_c ex iv (HS.call c6.log0) (by first | (dsimp only; omega) | omega) (by first | (dsimp only; omega) | omega) (by first | (dsimp only; omega) | omega) (by first | (dsimp only; omega) | omega) (by first | (dsimp only; omega) | omega) al hT (by first | (dsimp only; omega) | omega)) (⟨.inl rfl, trivial⟩) ?_
 rintro _ mV ⟨nW, n6, o8, k6, oi, ag, a3, rfl, d1, rfl⟩
 refine ⟨Wr.did a3.log, fun mu ky => ?_⟩
 replace a3 := HS.back c6.log0 rfl a3
 replace a3 := HS.lg a3 c6 ky
 generalize ({ mV with log := mu } : Heap) = nO at a3 ⊢
 have a3 : HS _ _ _ [_, _, _, k6] _ := a3
 replace hT := hT.mono ag
 replace al := al.mono ag
 refine aB (v := ld) (id := .l b1) (bQ (i := 0) rfl rfl rfl (HS.hc a3.log0 (i := 0) rfl) rfl rfl rfl) rfl rfl (bg rfl) (⟨.inr List.not_mem_nil, ⟨.inr trivial, trivial⟩⟩) ?_
 refine aX (W := []) (am rfl rfl rfl) rfl rfl rfl (ma.vwrites_c ex iv (HS.call a3.log0) (by first | (dsimp only; omega) | omega) (by first | (dsimp only; omega) | omega) (by first | (dsimp only; omega) | omega) (by first | (dsimp only; omega) | omega) (by first | (dsimp only; omega) | omega) al hT) (⟨.inl rfl, ⟨.inl rfl, ⟨.inl rfl, trivial⟩⟩⟩) ?_
 rintro _ mW ⟨nX, n7, o9, hh, mU, U, a7, rfl, kH, rfl⟩
 refine ⟨Wr.did a7.log, fun mw kz => ?_⟩
 replace a7 := HS.back a3.log0 rfl a7
 replace a7 := HS.lg a7 a3 kz
 generalize ({ mW with log := mw } : Heap) = nS at a7 ⊢
 have a7 : HS _ _ _ [_, _, _, _, hh] _ := a7
 replace hT := hT.mono U
 replace N := (N.mono ag).mono U
 replace dt := (dt.mono ag).mono U
 replace al := al.mono U
 replace d1 := d1.mono U
 refine cL (id := .x (k6.map Prod.fst)) (aW (α := Int) (q := 3) d1 a7.log0 rfl rfl rfl (OS.sv kH a7.log0 (i := 4) rfl) rfl rfl rfl rfl rfl rfl rfl (by first | omega | (simp only [List.length_append, List.length_cons, List.length_nil]; omega))) rfl rfl (by rintro _ _ e3 ⟨kS, kZ, rfl, dv, _, hwr⟩; exact dh rfl rfl (Wr.did hwr)) (⟨.inl rfl, ⟨.inl rfl, ⟨.inl rfl, ⟨.inl rfl, trivial⟩⟩⟩⟩) ?_
 rintro _ mX e3 ⟨kS, kZ, rfl, dv, z, _⟩ mx kA
 replace z := HS.lg z a7 kA
 generalize ({ mX with log := mx } : Heap) = hm at z ⊢
 have z : HS _ _ _ [_, _, _, e3, _] _ := z
 refine aB (v := (iI (((aI iv) ++ (ak iv)).length : Int))) (id := .v) (iM (α := Int) rfl rfl (OS.sv dv z.log0 (i := 3) rfl)) rfl rfl (jR rfl) (dI _) ?_
 refine fm (iI 0) rfl rfl rfl ?_
 refine bU ?_
 refine aq 2 rfl ?_
 refine aE (fun (mm : Nat) f H' => ∃ (k : Nat), H' = hm ∧ aH f [(2, (.pointer (some ⟨b1, 0, none⟩))), (3, (.pointer (some ⟨b3, 0, none⟩))), (5, (.pointer (some ⟨b6, 0, none⟩))), (24, (.slice kS ((aI iv) ++ (ak iv)).length kZ)), (25, (iI (((aI iv) ++ (ak iv)).length : Int))), (26, (iI (k : Int)))] ∧ mm = (aI iv ++ ak iv).length - k ∧ (k ≤ (aI iv ++ ak iv).length) ∧ (∀ j, j < k → 0 ≤ (aI iv ++ ak iv).getD j 0 ∧ (aI iv ++ ak iv).getD j 0 < (a.locs.length : Int))) _ ⟨0, rfl, (agC rfl (agC rfl (agC rfl (agC rfl (agC rfl (agC rfl agN)))))), rfl, (by first | assumption | omega | (simp at *; omega)), (by exact fun j hj => absurd hj (Nat.not_lt_zero _))⟩ ?_
 rintro n8 oX hm ⟨k, rfl, hQ, rfl, h1, h2⟩ mr
 refine au _ hQ (fun _ => ?_)
 clear hQ
 have hll : (aI iv ++ ak iv).length ≤ 1048580 := by rw [List.length_append]; omega
 refine aq 1 rfl ?_
 refine wR 2 [] 27 27 [] [(27, (.bool (decide ((k : Int) < (((aI iv) ++ (ak iv)).length : Int)))))] trivial rfl fun _ => ?_
 refine ap 4 5 (v := (decide ((k : Int) < (((aI iv) ++ (ak iv)).length : Int)))) rfl rfl rfl rfl (fun f0 => ?_) (fun f0 => ?_)
 ·
  have hv := f0
  try simp only [BS] at hv
  obtain ⟨nY, it⟩ := Sv.view (OS.sv dv z (i := 3) rfl)
  have oZ := fI (it k)
  refine wR 2 [(1, .o (iI (((aI iv) ++ (ak iv)).getD k 0)))] 28 29 [7] [(7, (iI (((aI iv) ++ (ak iv)).getD k 0)))] (vA (Sv.ix (j := (k : Int)) (OS.sv dv z (i := 3) rfl) (by first | (dsimp only; omega) | omega) (by first | (dsimp only; omega) | omega)) (vA (ql 3 0 (vI (it k) (by first | (dsimp only; omega) | omega)) rfl rfl) trivial)) rfl fun _ => ?_
  refine wR 1 [(5, .o (.slice E a.locs.length J))] 30 38 [] [(38, (.bool ((decide ((((aI iv) ++ (ak iv)).getD k 0) < 0)) || (decide ((a.locs.length : Int) ≤ (((aI iv) ++ (ak iv)).getD k 0))))))] (vA (fun (g1 : (decide ((((aI iv) ++ (ak iv)).getD k 0) < 0)) = false) => (ql 37 0 (HS.hc z (i := 1) rfl) rfl rfl)) trivial) rfl fun _ => ?_
  refine ap 1 2 (v := ((decide ((((aI iv) ++ (ak iv)).getD k 0) < 0)) || (decide ((a.locs.length : Int) ≤ (((aI iv) ++ (ak iv)).getD k 0))))) rfl rfl rfl rfl (fun f1 => ?_) (fun f1 => ?_)
  ·
   have hw := f1
   try simp only [BS] at hw
   refine wR 1 [] 4 4 [] [(4, (.slice none 0 0))] trivial rfl fun _ => ?_
   refine ah ⟨.inr rfl, _, rfl, none, 0, ([] : List InsT), [], _, (fT (ag) U), (HS.cons (HS.forget z)), rfl, (OS.nil : OS _ _ _ []), (by exact exp_no (fun h => rng_no rfl (k := k) (by omega) (by omega) h.2))⟩
  have hw := f1
  try simp only [BS] at hw
  refine wR 1 [] 26 26 [39] [(26, (iI ((k : Int) + 1)))] (vA (vi (n := (k : Int) + 1) (by first | (dsimp only; omega) | omega)) trivial) rfl fun _ => ?_
  refine mr _ _ _ ?_ ⟨k + 1, rfl, (agC rfl (agC rfl (agC rfl (agC rfl (agC rfl (agC rfl agN)))))), rfl, (by first | assumption | omega | (simp at *; omega)), (by exact fun j hj => by (rcases Nat.lt_or_ge j k with h | h; exact h2 j h; rw [show j = k by omega]; omega))⟩
  omega
 have hv := f0
 try simp only [BS] at hv
 have hrg : rngV iv a.locs.length := rng_all rfl (by omega) h2
 have rf := rng_of hal hrg
 refine wR 3 [] 1 0 [8] [(8, (.slice none 0 0))] trivial rfl fun _ => ?_
 refine wR 3 [(1, .o (iI iv.i.op))] 40 41 [] [(41, (iI iv.i.op))] (vA (ql 3 0 (HS.hc z (i := 2) rfl) rfl rfl) trivial) rfl fun _ => ?_
 refine wR 1 [] 42 43 [] [(42, (.bool (iv.i.op == 6)))] trivial rfl fun _ => ?_
 refine ap 2 1 (v := (iv.i.op == 6)) rfl rfl rfl rfl (fun f2 => ?_) (fun f2 => ?_)
 ·
  have ez := f2
  try simp only [BS] at ez
  have h6 := ez
  have hA := rf.a (.inr (.inr (.inl h6)))
  refine wR 2 [(1, .o (.slice a4 iv.args.length a6))] 44 47 [] [(45, (.slice a4 iv.args.length a6)), (46, (iI (iv.args.length : Int))), (47, (iI 0))] (vA (ql 25 5 (HS.hc z (i := 0) rfl) rfl rfl) trivial) rfl fun _ => ?_
  have g0 := HS.snoc z
  have g0 : HS _ _ _ [_, _, _, _, _, []] _ := g0
  let km : Fp := [(b1, .cells [(iI iv.i.op), (iI iv.i.a), (iI iv.i.b), (iI iv.i.c), (iI iv.i.n), (.slice a4 iv.args.length a6)] none false)]
  let kn : Fp := [(b3, .cells [(.slice E a.locs.length J), (.slice cc a.spi.length ch), (iI a.slots)] none false)]
  let ko : Fp := [(b6, .cells [(iI iv.i.op), (iI iv.i.a), (iI iv.i.b), (iI iv.i.c), (iI iv.i.n)] none false)]
  refine aE (fun (mm : Nat) f H' => ∃ (o1 : List InsT) (k2 : Nat) (V : Option Addr) (Z : Nat) (bk : Fp) (F' : Fz), Fz.le mU F' ∧ HS (Base.of H []) F' H' [km, kn, ko, e3, hh, bk] R ∧ OS F' (.slice V o1.length Z) o1 bk ∧ aH f [(2, (.pointer (some ⟨b1, 0, none⟩))), (3, (.pointer (some ⟨b3, 0, none⟩))), (5, (.pointer (some ⟨b6, 0, none⟩))), (8, (.slice V o1.length Z)), (45, (.slice a4 iv.args.length a6)), (46, (iI (iv.args.length : Int))), (47, (iI (k2 : Int)))] ∧ mm = iv.args.length - k2 ∧ (o1 = iV a.locs iv.args k2) ∧ (k2 ≤ iv.args.length)) _ ⟨([] : List InsT), 0, none, 0, [], _, fR, g0, (OS.nil : OS _ (.slice none 0 0) ([] : List InsT) []), (agC rfl (agC rfl (agC rfl (agC rfl (agC rfl (agC rfl (agC rfl agN))))))), rfl, (by rfl), (by first | assumption | omega | (simp at *; omega))⟩ ?_
  rintro n9 oY ou ⟨o1, k2, V, Z, bk, kR, c3, bz, a0, hS, rfl, g1, g2⟩ ms
  refine au _ hS (fun _ => ?_)
  clear hS
  replace hT := hT.mono c3
  replace N := N.mono c3
  replace al := al.mono c3
  have hol : o1.length ≤ k2 := by rw [g1]; exact gM _
  refine aq 1 rfl ?_
  refine wR 2 [] 48 48 [] [(48, (.bool (decide ((k2 : Int) < (iv.args.length : Int)))))] trivial rfl fun _ => ?_
  refine ap 4 5 (v := (decide ((k2 : Int) < (iv.args.length : Int)))) rfl rfl rfl rfl (fun f3 => ?_) (fun f3 => ?_)
  ·
   have hz := f3
   try simp only [BS] at hz
   have hg := rf.g h6 k2 (by omega)
   obtain ⟨nZ, iz⟩ := Sv.view (SR.sv al bz)
   have o0 := fI (iz k2)
   refine wR 1 [(2, .o (iI (iv.args.getD k2 0)))] 49 51 [9, 10] [(9, (iI (k2 : Int))), (10, (iI (iv.args.getD k2 0)))] (vA (Sv.ix (j := (k2 : Int)) (SR.sv al bz) (by first | (dsimp only; omega) | omega) (by first | (dsimp only; omega) | omega)) (vA (ql 3 0 (vI (iz k2) (by first | (dsimp only; omega) | omega)) rfl rfl) trivial)) rfl fun _ => ?_
   refine aa ?_
   obtain ⟨n1, i1⟩ := Sv.view (SR.sv N bz)
   have nr := LocT.fx (i1 (iv.args.getD k2 0).toNat)
   let lf : Value := (.agg ⟨[(.bool (a.locs.getD (iv.args.getD k2 0).toNat default).inS), (iI (a.locs.getD (iv.args.getD k2 0).toNat default).idx)]⟩)
   refine wRo 7 0 [(3, .o (.slice E a.locs.length J)), (6, .o lf)] 52 58 [] [(52, (.slice V o1.length Z)), (53, (iI (k2 : Int))), (58, lf)] (vA (ql 37 0 (HS.hc bz (i := 1) rfl) rfl rfl) (vA (Sv.ix (j := (iv.args.getD k2 0)) (SR.sv N bz) (by first | (dsimp only; omega) | omega) (by first | (dsimp only; omega) | omega)) (vA (qn 57 0 2 (LocT.vw (i1 (iv.args.getD k2 0).toNat) (by first | (dsimp only; omega) | omega)) rfl rfl rfl rfl) trivial))) rfl fun _ => ?_
   refine az (R := fun v H' => ∃ (o3 : List InsT) (ax : Option Addr) (a1 : Nat) (a8 : Fp) (F' : Fz), Fz.le kR F' ∧ HS (Base.of H []) F' H' [km, kn, ko, e3, hh, a8] R ∧ OS F' (.slice ax o3.length a1) o3 a8 ∧ v = (.slice ax o3.length a1) ∧ (o3 = o1 ++ eS (k2 : Int) (a.locs.getD (iv.args.getD k2 0).toNat default).inS (a.locs.getD (iv.args.getD k2 0).toNat default).idx)) (am rfl rfl rfl) rfl rfl ?_ ?_
   ·
    refine aJ Tryd.func79 rfl rfl ?_
    refine aq 1 rfl ?_
    refine aa ?_
    refine aC (be bz rfl rfl) rfl rfl ?_
    rintro _ ow _ ⟨m0, rfl, (b0 : HS _ _ _ [_, _, _, _, _, bk, [(m0, .cells [(.bool (a.locs.getD (iv.args.getD k2 0).toNat default).inS), (iI (a.locs.getD (iv.args.getD k2 0).toNat default).idx)] none false)]] _), _⟩
    refine wa (.slice none 0 0) rfl rfl rfl ?_
    refine ab 4 rfl ?_
    refine wR 1 [(1, .o (.bool (a.locs.getD (iv.args.getD k2 0).toNat default).inS))] 7 9 [] [(7, (.bool (a.locs.getD (iv.args.getD k2 0).toNat default).inS))] (vA (ql 4 0 (HS.hc b0 (i := 6) rfl) rfl rfl) trivial) rfl fun _ => ?_
    refine ap 1 1 (v := (a.locs.getD (iv.args.getD k2 0).toNat default).inS) rfl rfl rfl rfl (fun f4 => ?_) (fun f4 => ?_)
    ·
     have hC := f4
     try simp only [BS] at hC
     refine aa ?_
     refine wRo 4 0 [(3, .o (iI (a.locs.getD (iv.args.getD k2 0).toNat default).idx))] 10 13 [] [(10, (.slice V o1.length Z)), (11, (iI (k2 : Int))), (13, (iI (a.locs.getD (iv.args.getD k2 0).toNat default).idx))] (vA (ql 3 1 (HS.hc b0 (i := 6) rfl) rfl rfl) trivial) rfl fun _ => ?_
     refine az (am rfl rfl rfl) rfl rfl (iu ex (k2 : Int) (a.locs.getD (iv.args.getD k2 0).toNat default).idx (HS.call b0) (by first | (dsimp only; omega) | omega) (by first | (dsimp only; omega) | omega) hT) ?_
     rintro _ ox ⟨pb, ol, hH, g3, rfl, mA, mB, mC, mD, mE, rfl⟩
     replace g3 : HS _ _ _ [_, _, _, _, _, _, _] _ := HS.back b0 rfl g3
     replace a0 := a0.mono hH
     refine aC (aP (α := InsT) (ps := [(0, (.agg ⟨[(iI (⟨36, (k2 : Int), 0, 0, (a.locs.getD (iv.args.getD k2 0).toNat default).idx⟩ : InsT).op), (iI (⟨36, (k2 : Int), 0, 0, (a.locs.getD (iv.args.getD k2 0).toNat default).idx⟩ : InsT).a), (iI (⟨36, (k2 : Int), 0, 0, (a.locs.getD (iv.args.getD k2 0).toNat default).idx⟩ : InsT).b), (iI (⟨36, (k2 : Int), 0, 0, (a.locs.getD (iv.args.getD k2 0).toNat default).idx⟩ : InsT).c), (iI (⟨36, (k2 : Int), 0, 0, (a.locs.getD (iv.args.getD k2 0).toNat default).idx⟩ : InsT).n)]⟩))]) (cells := [(iI (⟨36, (k2 : Int), 0, 0, (a.locs.getD (iv.args.getD k2 0).toNat default).idx⟩ : InsT).op), (iI (⟨36, (k2 : Int), 0, 0, (a.locs.getD (iv.args.getD k2 0).toNat default).idx⟩ : InsT).a), (iI (⟨36, (k2 : Int), 0, 0, (a.locs.getD (iv.args.getD k2 0).toNat default).idx⟩ : InsT).b), (iI (⟨36, (k2 : Int), 0, 0, (a.locs.getD (iv.args.getD k2 0).toNat default).idx⟩ : InsT).c), (iI (⟨36, (k2 : Int), 0, 0, (a.locs.getD (iv.args.getD k2 0).toNat default).idx⟩ : InsT).n)]) ([(⟨36, (k2 : Int), 0, 0, (a.locs.getD (iv.args.getD k2 0).toNat default).idx⟩ : InsT)] : List InsT) g3 rfl rfl rfl (by kernel_rfl) ⟨[(iI (⟨36, (k2 : Int), 0, 0, (a.locs.getD (iv.args.getD k2 0).toNat default).idx⟩ : InsT).op), (iI (⟨36, (k2 : Int), 0, 0, (a.locs.getD (iv.args.getD k2 0).toNat default).idx⟩ : InsT).a), (iI (⟨36, (k2 : Int), 0, 0, (a.locs.getD (iv.args.getD k2 0).toNat default).idx⟩ : InsT).b), (iI (⟨36, (k2 : Int), 0, 0, (a.locs.getD (iv.args.getD k2 0).toNat default).idx⟩ : InsT).c), (iI (⟨36, (k2 : Int), 0, 0, (a.locs.getD (iv.args.getD k2 0).toNat default).idx⟩ : InsT).n)], [], rfl, ⟨rfl, by first | (dsimp only; omega) | omega, by first | (dsimp only; omega) | omega, by first | (dsimp only; omega) | omega, by first | (dsimp only; omega) | omega, by first | (dsimp only; omega) | omega⟩, rfl⟩ rfl) rfl rfl ?_
     rintro _ oy ng ⟨oR, o2, rfl, lX, (h8 : HS _ _ _ [_, _, _, _, _, _, _, ng] _), _⟩
     refine aC (aW (α := InsT) (q := 5) a0 h8 rfl rfl rfl (OS.sv lX h8 (i := 7) rfl) rfl rfl rfl rfl rfl rfl rfl (by first | omega | (simp only [List.length_append, List.length_cons, List.length_nil]; omega))) rfl rfl ?_
     rintro _ oz k7 ⟨kT, k0, rfl, lY, (l9 : HS _ _ _ [_, _, _, _, _, k7, _, _] _), _⟩
     refine wa (.slice kT (o1 ++ ([(⟨36, (k2 : Int), 0, 0, (a.locs.getD (iv.args.getD k2 0).toNat default).idx⟩ : InsT)] : List InsT)).length k0) rfl rfl rfl ?_
     refine ab 1 rfl ?_
     refine ah ⟨.inr rfl, _, rfl, o1 ++ ([(⟨36, (k2 : Int), 0, 0, (a.locs.getD (iv.args.getD k2 0).toNat default).idx⟩ : InsT)] : List InsT), kT, k0, k7, _, (hH), (HS.sub l9 (List.sublist_append_left _ _)), lY, rfl, (by first | exact fet1 (by assumption) | exact fet2 (by assumption) (by assumption) | exact fet0 (by assumption) (by omega))⟩
    have hC := f4
    try simp only [BS] at hC
    refine wR 1 [(1, .o (iI (a.locs.getD (iv.args.getD k2 0).toNat default).idx))] 17 21 [] [(17, (.bool ((a.locs.getD (iv.args.getD k2 0).toNat default).idx != (k2 : Int))))] (vA (ql 3 1 (HS.hc b0 (i := 6) rfl) rfl rfl) trivial) rfl fun _ => ?_
    refine ap 1 3 (v := ((a.locs.getD (iv.args.getD k2 0).toNat default).idx != (k2 : Int))) rfl rfl rfl rfl (fun f5 => ?_) (fun f5 => ?_)
    ·
     have hD := f5
     try simp only [BS] at hD
     refine aa ?_
     refine wRo 4 0 [(3, .o (iI (a.locs.getD (iv.args.getD k2 0).toNat default).idx))] 22 25 [] [(22, (.slice V o1.length Z)), (23, (iI (k2 : Int))), (25, (iI (a.locs.getD (iv.args.getD k2 0).toNat default).idx))] (vA (ql 3 1 (HS.hc b0 (i := 6) rfl) rfl rfl) trivial) rfl fun _ => ?_
     refine az (am rfl rfl rfl) rfl rfl (move_c ex (k2 : Int) (a.locs.getD (iv.args.getD k2 0).toNat default).idx (HS.call b0) (by first | (dsimp only; omega) | omega) (by first | (dsimp only; omega) | omega) hT) ?_
     rintro _ oD ⟨pc, om, hI, g4, rfl, mF, mG, mH, mI, mJ, rfl⟩
     replace g4 : HS _ _ _ [_, _, _, _, _, _, _] _ := HS.back b0 rfl g4
     replace a0 := a0.mono hI
     refine aC (aP (α := InsT) (ps := [(0, (.agg ⟨[(iI (⟨10, (k2 : Int), (a.locs.getD (iv.args.getD k2 0).toNat default).idx, 0, 0⟩ : InsT).op), (iI (⟨10, (k2 : Int), (a.locs.getD (iv.args.getD k2 0).toNat default).idx, 0, 0⟩ : InsT).a), (iI (⟨10, (k2 : Int), (a.locs.getD (iv.args.getD k2 0).toNat default).idx, 0, 0⟩ : InsT).b), (iI (⟨10, (k2 : Int), (a.locs.getD (iv.args.getD k2 0).toNat default).idx, 0, 0⟩ : InsT).c), (iI (⟨10, (k2 : Int), (a.locs.getD (iv.args.getD k2 0).toNat default).idx, 0, 0⟩ : InsT).n)]⟩))]) (cells := [(iI (⟨10, (k2 : Int), (a.locs.getD (iv.args.getD k2 0).toNat default).idx, 0, 0⟩ : InsT).op), (iI (⟨10, (k2 : Int), (a.locs.getD (iv.args.getD k2 0).toNat default).idx, 0, 0⟩ : InsT).a), (iI (⟨10, (k2 : Int), (a.locs.getD (iv.args.getD k2 0).toNat default).idx, 0, 0⟩ : InsT).b), (iI (⟨10, (k2 : Int), (a.locs.getD (iv.args.getD k2 0).toNat default).idx, 0, 0⟩ : InsT).c), (iI (⟨10, (k2 : Int), (a.locs.getD (iv.args.getD k2 0).toNat default).idx, 0, 0⟩ : InsT).n)]) ([(⟨10, (k2 : Int), (a.locs.getD (iv.args.getD k2 0).toNat default).idx, 0, 0⟩ : InsT)] : List InsT) g4 rfl rfl rfl (by kernel_rfl) ⟨[(iI (⟨10, (k2 : Int), (a.locs.getD (iv.args.getD k2 0).toNat default).idx, 0, 0⟩ : InsT).op), (iI (⟨10, (k2 : Int), (a.locs.getD (iv.args.getD k2 0).toNat default).idx, 0, 0⟩ : InsT).a), (iI (⟨10, (k2 : Int), (a.locs.getD (iv.args.getD k2 0).toNat default).idx, 0, 0⟩ : InsT).b), (iI (⟨10, (k2 : Int), (a.locs.getD (iv.args.getD k2 0).toNat default).idx, 0, 0⟩ : InsT).c), (iI (⟨10, (k2 : Int), (a.locs.getD (iv.args.getD k2 0).toNat default).idx, 0, 0⟩ : InsT).n)], [], rfl, ⟨rfl, by first | (dsimp only; omega) | omega, by first | (dsimp only; omega) | omega, by first | (dsimp only; omega) | omega, by first | (dsimp only; omega) | omega, by first | (dsimp only; omega) | omega⟩, rfl⟩ rfl) rfl rfl ?_
     rintro _ oE nh ⟨oT, o4, rfl, lZ, (ib : HS _ _ _ [_, _, _, _, _, _, _, nh] _), _⟩
     refine aC (aW (α := InsT) (q := 5) a0 ib rfl rfl rfl (OS.sv lZ ib (i := 7) rfl) rfl rfl rfl rfl rfl rfl rfl (by first | omega | (simp only [List.length_append, List.length_cons, List.length_nil]; omega))) rfl rfl ?_
     rintro _ oF k8 ⟨kU, k3, rfl, l0, (mk : HS _ _ _ [_, _, _, _, _, k8, _, _] _), _⟩
     refine wa (.slice kU (o1 ++ ([(⟨10, (k2 : Int), (a.locs.getD (iv.args.getD k2 0).toNat default).idx, 0, 0⟩ : InsT)] : List InsT)).length k3) rfl rfl rfl ?_
     refine ab 1 rfl ?_
     refine ah ⟨.inr rfl, _, rfl, o1 ++ ([(⟨10, (k2 : Int), (a.locs.getD (iv.args.getD k2 0).toNat default).idx, 0, 0⟩ : InsT)] : List InsT), kU, k3, k8, _, (hI), (HS.sub mk (List.sublist_append_left _ _)), l0, rfl, (by first | exact fet1 (by assumption) | exact fet2 (by assumption) (by assumption) | exact fet0 (by assumption) (by omega))⟩
    have hD := f5
    try simp only [BS] at hD
    refine wR 1 [] 6 6 [29] [(6, (.slice V o1.length Z))] trivial rfl fun _ => ?_
    refine ah ⟨.inr rfl, _, rfl, o1, V, Z, bk, _, fR, (HS.sub b0 (List.sublist_append_left _ _)), a0, rfl, (by first | exact fet1 (by assumption) | exact fet2 (by assumption) (by assumption) | exact fet0 (by assumption) (by omega))⟩
   rintro _ ov ⟨o3, ax, a1, a8, oj, lq, l8, e1, rfl, h4⟩
   refine wa (.slice ax o3.length a1) rfl rfl rfl ?_
   refine ab 2 rfl ?_
   refine wR 1 [] 47 47 [60] [(47, (iI ((k2 : Int) + 1)))] (vA (vi (n := (k2 : Int) + 1) (by first | (dsimp only; omega) | omega)) trivial) rfl fun _ => ?_
   refine ms _ _ _ ?_ ⟨o3, k2 + 1, ax, a1, a8, _, (fT (c3) lq), l8, e1, (agC rfl (agC rfl (agC rfl (agC rfl (agC rfl (agC rfl (agC rfl agN))))))), rfl, (by rw [h4, g1]; rfl), (by first | assumption | omega | (simp at *; omega))⟩
   omega
  have hz := f3
  try simp only [BS] at hz
  refine aa ?_
  let lh : Value := (.agg ⟨[(iI 6), (iI (iv.args.length : Int)), (iI 0), (iI 0), (iI iv.i.n)]⟩)
  refine wRo 7 0 [(2, .o (.slice a4 iv.args.length a6)), (5, .o (iI iv.i.n))] 61 67 [] [(61, (.slice V o1.length Z)), (67, lh)] (vA (ql 25 5 (HS.hc bz (i := 0) rfl) rfl rfl) (vA (ql 2 4 (HS.hc bz (i := 2) rfl) rfl rfl) trivial)) rfl fun _ => ?_
  refine aC (aP (α := InsT) (ps := [(0, lh)]) (cells := [(iI 6), (iI (iv.args.length : Int)), (iI 0), (iI 0), (iI iv.i.n)]) ([(⟨6, (iv.args.length : Int), 0, 0, iv.i.n⟩ : InsT)] : List InsT) bz rfl rfl rfl (by kernel_rfl) ⟨[(iI 6), (iI (iv.args.length : Int)), (iI 0), (iI 0), (iI iv.i.n)], [], rfl, ⟨rfl, by first | (dsimp only; omega) | omega, by first | (dsimp only; omega) | omega, by first | (dsimp only; omega) | omega, by first | (dsimp only; omega) | omega, by first | (dsimp only; omega) | omega⟩, rfl⟩ rfl) rfl rfl ?_
  rintro _ oG k9 ⟨oU, o5, rfl, l1, (ih : HS _ _ _ [_, _, _, _, _, bk, k9] _), _⟩
  refine aC (aW (α := InsT) (q := 5) a0 ih rfl rfl rfl (OS.sv l1 ih (i := 6) rfl) rfl rfl rfl rfl rfl rfl rfl (by first | omega | (simp only [List.length_append, List.length_cons, List.length_nil]; omega))) rfl rfl ?_
  rintro _ oH la ⟨c5, c7, rfl, b7, (c4 : HS _ _ _ [_, _, _, _, _, la, _] _), _⟩
  refine wa (.slice c5 (o1 ++ ([(⟨6, (iv.args.length : Int), 0, 0, iv.i.n⟩ : InsT)] : List InsT)).length c7) rfl rfl rfl ?_
  refine ab 2 rfl ?_
  refine aa ?_
  obtain ⟨n2, i2⟩ := Sv.view (SR.sv N c4)
  have ns := LocT.fx (i2 iv.i.a.toNat)
  let kd : Value := (.agg ⟨[(.bool (a.locs.getD iv.i.a.toNat default).inS), (iI (a.locs.getD iv.i.a.toNat default).idx)]⟩)
  refine wRo 7 0 [(2, .o (.slice E a.locs.length J)), (4, .o (iI iv.i.a)), (6, .o kd)] 70 76 [] [(70, (.slice c5 (o1 ++ ([(⟨6, (iv.args.length : Int), 0, 0, iv.i.n⟩ : InsT)] : List InsT)).length c7)), (76, kd)] (vA (ql 37 0 (HS.hc c4 (i := 1) rfl) rfl rfl) (vA (ql 3 1 (HS.hc c4 (i := 2) rfl) rfl rfl) (vA (Sv.ix (j := iv.i.a) (SR.sv N c4) (by first | (dsimp only; omega) | omega) (by first | (dsimp only; omega) | omega)) (vA (qn 57 0 2 (LocT.vw (i2 iv.i.a.toNat) (by first | (dsimp only; omega) | omega)) rfl rfl rfl rfl) trivial)))) rfl fun _ => ?_
  refine az (R := fun v H' => ∃ (o3 : List InsT) (ay : Option Addr) (a2 : Nat) (a9 : Fp) (F' : Fz), Fz.le kR F' ∧ HS (Base.of H []) F' H' [km, kn, ko, e3, hh, a9, k9] R ∧ OS F' (.slice ay o3.length a2) o3 a9 ∧ v = (.slice ay o3.length a2) ∧ (o3 = (o1 ++ ([(⟨6, (iv.args.length : Int), 0, 0, iv.i.n⟩ : InsT)] : List InsT)) ++ savV (a.locs.getD iv.i.a.toNat default).inS (a.locs.getD iv.i.a.toNat default).idx)) (am rfl rfl rfl) rfl rfl ?_ ?_
  ·
   refine aJ Tryd.func80 rfl rfl ?_
   refine aq 1 rfl ?_
   refine aa ?_
   refine aC (be c4 rfl rfl) rfl rfl ?_
   rintro _ oJ _ ⟨m7, rfl, (b2 : HS _ _ _ [_, _, _, _, _, _, _, [(m7, .cells [(.bool (a.locs.getD iv.i.a.toNat default).inS), (iI (a.locs.getD iv.i.a.toNat default).idx)] none false)]] _), _⟩
   refine wa (.slice none 0 0) rfl rfl rfl ?_
   refine ab 4 rfl ?_
   refine wR 1 [(1, .o (.bool (a.locs.getD iv.i.a.toNat default).inS))] 7 9 [] [(7, (.bool (a.locs.getD iv.i.a.toNat default).inS))] (vA (ql 4 0 (HS.hc b2 (i := 7) rfl) rfl rfl) trivial) rfl fun _ => ?_
   refine ap 1 1 (v := (a.locs.getD iv.i.a.toNat default).inS) rfl rfl rfl rfl (fun f7 => ?_) (fun f7 => ?_)
   ·
    have hE := f7
    try simp only [BS] at hE
    refine aa ?_
    refine wRo 4 0 [(3, .o (iI (a.locs.getD iv.i.a.toNat default).idx))] 10 13 [] [(10, (.slice c5 (o1 ++ ([(⟨6, (iv.args.length : Int), 0, 0, iv.i.n⟩ : InsT)] : List InsT)).length c7)), (11, (iI 0)), (13, (iI (a.locs.getD iv.i.a.toNat default).idx))] (vA (ql 3 1 (HS.hc b2 (i := 7) rfl) rfl rfl) trivial) rfl fun _ => ?_
    refine az (am rfl rfl rfl) rfl rfl (jD ex (0) (a.locs.getD iv.i.a.toNat default).idx (HS.call b2) (by first | (dsimp only; omega) | omega) (by first | (dsimp only; omega) | omega) hT) ?_
    rintro _ oK ⟨pd, oq, hK, g5, rfl, mK, mL, mM, mN, mO, rfl⟩
    replace g5 : HS _ _ _ [_, _, _, _, _, _, _, _] _ := HS.back b2 rfl g5
    replace b7 := b7.mono hK
    refine aC (aP (α := InsT) (ps := [(0, (.agg ⟨[(iI (⟨37, (0 : Int), 0, 0, (a.locs.getD iv.i.a.toNat default).idx⟩ : InsT).op), (iI (⟨37, (0 : Int), 0, 0, (a.locs.getD iv.i.a.toNat default).idx⟩ : InsT).a), (iI (⟨37, (0 : Int), 0, 0, (a.locs.getD iv.i.a.toNat default).idx⟩ : InsT).b), (iI (⟨37, (0 : Int), 0, 0, (a.locs.getD iv.i.a.toNat default).idx⟩ : InsT).c), (iI (⟨37, (0 : Int), 0, 0, (a.locs.getD iv.i.a.toNat default).idx⟩ : InsT).n)]⟩))]) (cells := [(iI (⟨37, (0 : Int), 0, 0, (a.locs.getD iv.i.a.toNat default).idx⟩ : InsT).op), (iI (⟨37, (0 : Int), 0, 0, (a.locs.getD iv.i.a.toNat default).idx⟩ : InsT).a), (iI (⟨37, (0 : Int), 0, 0, (a.locs.getD iv.i.a.toNat default).idx⟩ : InsT).b), (iI (⟨37, (0 : Int), 0, 0, (a.locs.getD iv.i.a.toNat default).idx⟩ : InsT).c), (iI (⟨37, (0 : Int), 0, 0, (a.locs.getD iv.i.a.toNat default).idx⟩ : InsT).n)]) ([(⟨37, (0 : Int), 0, 0, (a.locs.getD iv.i.a.toNat default).idx⟩ : InsT)] : List InsT) g5 rfl rfl rfl (by kernel_rfl) ⟨[(iI (⟨37, (0 : Int), 0, 0, (a.locs.getD iv.i.a.toNat default).idx⟩ : InsT).op), (iI (⟨37, (0 : Int), 0, 0, (a.locs.getD iv.i.a.toNat default).idx⟩ : InsT).a), (iI (⟨37, (0 : Int), 0, 0, (a.locs.getD iv.i.a.toNat default).idx⟩ : InsT).b), (iI (⟨37, (0 : Int), 0, 0, (a.locs.getD iv.i.a.toNat default).idx⟩ : InsT).c), (iI (⟨37, (0 : Int), 0, 0, (a.locs.getD iv.i.a.toNat default).idx⟩ : InsT).n)], [], rfl, ⟨rfl, by first | (dsimp only; omega) | omega, by first | (dsimp only; omega) | omega, by first | (dsimp only; omega) | omega, by first | (dsimp only; omega) | omega, by first | (dsimp only; omega) | omega⟩, rfl⟩ rfl) rfl rfl ?_
    rintro _ oL ni ⟨oV, o6, rfl, l2, (ii : HS _ _ _ [_, _, _, _, _, _, _, _, ni] _), _⟩
    refine aC (aW (α := InsT) (q := 5) b7 ii rfl rfl rfl (OS.sv l2 ii (i := 8) rfl) rfl rfl rfl rfl rfl rfl rfl (by first | omega | (simp only [List.length_append, List.length_cons, List.length_nil]; omega))) rfl rfl ?_
    rintro _ oM lb ⟨kV, k4, rfl, l3, (mp : HS _ _ _ [_, _, _, _, _, lb, _, _, _] _), _⟩
    refine wa (.slice kV ((o1 ++ ([(⟨6, (iv.args.length : Int), 0, 0, iv.i.n⟩ : InsT)] : List InsT)) ++ ([(⟨37, (0 : Int), 0, 0, (a.locs.getD iv.i.a.toNat default).idx⟩ : InsT)] : List InsT)).length k4) rfl rfl rfl ?_
    refine ab 1 rfl ?_
    refine ah ⟨.inr rfl, _, rfl, (o1 ++ ([(⟨6, (iv.args.length : Int), 0, 0, iv.i.n⟩ : InsT)] : List InsT)) ++ ([(⟨37, (0 : Int), 0, 0, (a.locs.getD iv.i.a.toNat default).idx⟩ : InsT)] : List InsT), kV, k4, lb, _, (hK), (HS.sub mp (List.sublist_append_left _ _)), l3, rfl, (by first | exact sav1 (by assumption) | exact sav2 (by assumption) (by assumption) | exact sav0 (by assumption) (by omega))⟩
   have hE := f7
   try simp only [BS] at hE
   refine wR 1 [(1, .o (iI (a.locs.getD iv.i.a.toNat default).idx))] 17 21 [] [(17, (.bool ((a.locs.getD iv.i.a.toNat default).idx != 0)))] (vA (ql 3 1 (HS.hc b2 (i := 7) rfl) rfl rfl) trivial) rfl fun _ => ?_
   refine ap 1 3 (v := ((a.locs.getD iv.i.a.toNat default).idx != 0)) rfl rfl rfl rfl (fun f9 => ?_) (fun f9 => ?_)
   ·
    have hF := f9
    try simp only [BS] at hF
    refine aa ?_
    refine wRo 4 0 [(2, .o (iI (a.locs.getD iv.i.a.toNat default).idx))] 22 25 [] [(22, (.slice c5 (o1 ++ ([(⟨6, (iv.args.length : Int), 0, 0, iv.i.n⟩ : InsT)] : List InsT)).length c7)), (24, (iI (a.locs.getD iv.i.a.toNat default).idx)), (25, (iI 0))] (vA (ql 3 1 (HS.hc b2 (i := 7) rfl) rfl rfl) trivial) rfl fun _ => ?_
    refine az (am rfl rfl rfl) rfl rfl (move_c ex (a.locs.getD iv.i.a.toNat default).idx (0) (HS.call b2) (by first | (dsimp only; omega) | omega) (by first | (dsimp only; omega) | omega) hT) ?_
    rintro _ oO ⟨pe, ot, hM, g6, rfl, mP, mQ, mR, mS, mT, rfl⟩
    replace g6 : HS _ _ _ [_, _, _, _, _, _, _, _] _ := HS.back b2 rfl g6
    replace b7 := b7.mono hM
    refine aC (aP (α := InsT) (ps := [(0, (.agg ⟨[(iI (⟨10, (a.locs.getD iv.i.a.toNat default).idx, (0 : Int), 0, 0⟩ : InsT).op), (iI (⟨10, (a.locs.getD iv.i.a.toNat default).idx, (0 : Int), 0, 0⟩ : InsT).a), (iI (⟨10, (a.locs.getD iv.i.a.toNat default).idx, (0 : Int), 0, 0⟩ : InsT).b), (iI (⟨10, (a.locs.getD iv.i.a.toNat default).idx, (0 : Int), 0, 0⟩ : InsT).c), (iI (⟨10, (a.locs.getD iv.i.a.toNat default).idx, (0 : Int), 0, 0⟩ : InsT).n)]⟩))]) (cells := [(iI (⟨10, (a.locs.getD iv.i.a.toNat default).idx, (0 : Int), 0, 0⟩ : InsT).op), (iI (⟨10, (a.locs.getD iv.i.a.toNat default).idx, (0 : Int), 0, 0⟩ : InsT).a), (iI (⟨10, (a.locs.getD iv.i.a.toNat default).idx, (0 : Int), 0, 0⟩ : InsT).b), (iI (⟨10, (a.locs.getD iv.i.a.toNat default).idx, (0 : Int), 0, 0⟩ : InsT).c), (iI (⟨10, (a.locs.getD iv.i.a.toNat default).idx, (0 : Int), 0, 0⟩ : InsT).n)]) ([(⟨10, (a.locs.getD iv.i.a.toNat default).idx, (0 : Int), 0, 0⟩ : InsT)] : List InsT) g6 rfl rfl rfl (by kernel_rfl) ⟨[(iI (⟨10, (a.locs.getD iv.i.a.toNat default).idx, (0 : Int), 0, 0⟩ : InsT).op), (iI (⟨10, (a.locs.getD iv.i.a.toNat default).idx, (0 : Int), 0, 0⟩ : InsT).a), (iI (⟨10, (a.locs.getD iv.i.a.toNat default).idx, (0 : Int), 0, 0⟩ : InsT).b), (iI (⟨10, (a.locs.getD iv.i.a.toNat default).idx, (0 : Int), 0, 0⟩ : InsT).c), (iI (⟨10, (a.locs.getD iv.i.a.toNat default).idx, (0 : Int), 0, 0⟩ : InsT).n)], [], rfl, ⟨rfl, by first | (dsimp only; omega) | omega, by first | (dsimp only; omega) | omega, by first | (dsimp only; omega) | omega, by first | (dsimp only; omega) | omega, by first | (dsimp only; omega) | omega⟩, rfl⟩ rfl) rfl rfl ?_
    rintro _ oP nj ⟨oW, o7, rfl, l4, (ik : HS _ _ _ [_, _, _, _, _, _, _, _, nj] _), _⟩
    refine aC (aW (α := InsT) (q := 5) b7 ik rfl rfl rfl (OS.sv l4 ik (i := 8) rfl) rfl rfl rfl rfl rfl rfl rfl (by first | omega | (simp only [List.length_append, List.length_cons, List.length_nil]; omega))) rfl rfl ?_
    rintro _ oQ lc ⟨kW, k5, rfl, l5, (mq : HS _ _ _ [_, _, _, _, _, lc, _, _, _] _), _⟩
    refine wa (.slice kW ((o1 ++ ([(⟨6, (iv.args.length : Int), 0, 0, iv.i.n⟩ : InsT)] : List InsT)) ++ ([(⟨10, (a.locs.getD iv.i.a.toNat default).idx, (0 : Int), 0, 0⟩ : InsT)] : List InsT)).length k5) rfl rfl rfl ?_
    refine ab 1 rfl ?_
    refine ah ⟨.inr rfl, _, rfl, (o1 ++ ([(⟨6, (iv.args.length : Int), 0, 0, iv.i.n⟩ : InsT)] : List InsT)) ++ ([(⟨10, (a.locs.getD iv.i.a.toNat default).idx, (0 : Int), 0, 0⟩ : InsT)] : List InsT), kW, k5, lc, _, (hM), (HS.sub mq (List.sublist_append_left _ _)), l5, rfl, (by first | exact sav1 (by assumption) | exact sav2 (by assumption) (by assumption) | exact sav0 (by assumption) (by omega))⟩
   have hF := f9
   try simp only [BS] at hF
   refine wR 1 [] 6 6 [29] [(6, (.slice c5 (o1 ++ ([(⟨6, (iv.args.length : Int), 0, 0, iv.i.n⟩ : InsT)] : List InsT)).length c7))] trivial rfl fun _ => ?_
   refine ah ⟨.inr rfl, _, rfl, o1 ++ ([(⟨6, (iv.args.length : Int), 0, 0, iv.i.n⟩ : InsT)] : List InsT), c5, c7, la, _, fR, (HS.sub b2 (List.sublist_append_left _ _)), b7, rfl, (by first | exact sav1 (by assumption) | exact sav2 (by assumption) (by assumption) | exact sav0 (by assumption) (by omega))⟩
  rintro _ oI ⟨o3, ay, a2, a9, oo, lr, mn, e2, rfl, h4⟩
  refine wa (.slice ay o3.length a2) rfl rfl rfl ?_
  refine ab 1 rfl ?_
  refine ah ⟨.inr rfl, _, rfl, ay, a2, o3, a9, _, (fT (fT (fT (ag) U) c3) lr), (HS.only mn (i := 5) rfl), rfl, e2, (by rw [h4, g1, show k2 = iv.args.length by omega]; exact exp_6 hal hrg h6)⟩
 have ez := f2
 try simp only [BS] at ez
 have h6 := ez
 refine wR 1 [] 78 79 [] [(78, (.bool (iv.i.op == 10)))] trivial rfl fun _ => ?_
 refine ap 1 1 (v := (iv.i.op == 10)) rfl rfl rfl rfl (fun go => ?_) (fun go => ?_)
 ·
  have e0 := go
  try simp only [BS] at e0
  have ci := e0
  have hA := rf.a (.inr (.inl (by rw [ci]; rfl)))
  have hB := rf.b (by rw [ci]; rfl)
  refine aQ rfl ?_
  refine aB (v := (.pointer (some ⟨b3, 0, none⟩))) (id := .v) (cg rfl rfl) rfl rfl (ep rfl) (dI _) ?_
  refine aB (v := (.slice E a.locs.length J)) (id := .l b3) (bh (i := 0) rfl rfl (HS.hc z.log0 (i := 1) rfl) rfl rfl) rfl rfl (bg rfl) (⟨.inl rfl, trivial⟩) ?_
  refine aB (v := (.pointer (some ⟨b6, 1, none⟩))) (id := .v) (cg rfl rfl) rfl rfl (ep rfl) (dI _) ?_
  refine aB (v := (iI iv.i.a)) (id := .l b6) (bh (i := 1) rfl rfl (HS.hc z.log0 (i := 2) rfl) rfl rfl) rfl rfl (bg rfl) (⟨.inl rfl, ⟨.inr trivial, ⟨.inr trivial, trivial⟩⟩⟩) ?_
  refine aB (v := (.pointer (some ⟨sB (.slice E a.locs.length J), sO (.slice E a.locs.length J) + iv.i.a.toNat * Rp.sz LocT, none⟩))) (id := .v) (br (α := LocT) (j := iv.i.a) rfl rfl rfl rfl (SR.sv N z.log0) (by first | (dsimp only; omega) | omega) (by first | (dsimp only; omega) | omega)) rfl rfl (ep rfl) (dI _) ?_
  obtain ⟨n3, l6, lu⟩ := Sv.at (SR.sv N z.log0) (aK (x := default) (show iv.i.a.toNat < a.locs.length from by first | (dsimp only; omega) | omega))
  obtain ⟨rfl, nt⟩ := l6
  let kg : Value := (.agg ⟨[(.bool (a.locs.getD iv.i.a.toNat default).inS), (iI (a.locs.getD iv.i.a.toNat default).idx)]⟩)
  refine aB (v := kg) (id := .l (sB (.slice E a.locs.length J))) (bQ (i := 0) rfl rfl rfl lu rfl rfl rfl) rfl rfl (bg rfl) (⟨.inl rfl, ⟨.inl rfl, ⟨.inl rfl, ⟨.inl rfl, ⟨.inl rfl, trivial⟩⟩⟩⟩⟩) ?_
  refine aB (v := (.pointer (some ⟨b3, 0, none⟩))) (id := .v) (cg rfl rfl) rfl rfl (ep rfl) (dI _) ?_
  refine aB (v := (.slice E a.locs.length J)) (id := .l b3) (bh (i := 0) rfl rfl (HS.hc z.log0 (i := 1) rfl) rfl rfl) rfl rfl (bg rfl) (⟨.inl rfl, ⟨.inr trivial, ⟨.inr trivial, ⟨.inr trivial, ⟨.inr trivial, ⟨.inr trivial, ⟨.inr trivial, trivial⟩⟩⟩⟩⟩⟩⟩) ?_
  refine aB (v := (.pointer (some ⟨b6, 2, none⟩))) (id := .v) (cg rfl rfl) rfl rfl (ep rfl) (dI _) ?_
  refine aB (v := (iI iv.i.b)) (id := .l b6) (bh (i := 2) rfl rfl (HS.hc z.log0 (i := 2) rfl) rfl rfl) rfl rfl (bg rfl) (⟨.inl rfl, ⟨.inr trivial, ⟨.inr trivial, ⟨.inr trivial, ⟨.inr trivial, ⟨.inr trivial, ⟨.inr trivial, ⟨.inr trivial, ⟨.inr trivial, trivial⟩⟩⟩⟩⟩⟩⟩⟩⟩) ?_
  refine aB (v := (.pointer (some ⟨sB (.slice E a.locs.length J), sO (.slice E a.locs.length J) + iv.i.b.toNat * Rp.sz LocT, none⟩))) (id := .v) (br (α := LocT) (j := iv.i.b) rfl rfl rfl rfl (SR.sv N z.log0) (by first | (dsimp only; omega) | omega) (by first | (dsimp only; omega) | omega)) rfl rfl (ep rfl) (dI _) ?_
  obtain ⟨n4, l7, lv⟩ := Sv.at (SR.sv N z.log0) (aK (x := default) (show iv.i.b.toNat < a.locs.length from by first | (dsimp only; omega) | omega))
  obtain ⟨rfl, nu⟩ := l7
  let ki : Value := (.agg ⟨[(.bool (a.locs.getD iv.i.b.toNat default).inS), (iI (a.locs.getD iv.i.b.toNat default).idx)]⟩)
  refine aB (v := ki) (id := .l (sB (.slice E a.locs.length J))) (bQ (i := 0) rfl rfl rfl lv rfl rfl rfl) rfl rfl (bg rfl) (⟨.inl rfl, ⟨.inl rfl, ⟨.inl rfl, ⟨.inl rfl, ⟨.inl rfl, ⟨.inr trivial, ⟨.inr trivial, ⟨.inr trivial, ⟨.inr trivial, ⟨.inr trivial, ⟨.inr trivial, trivial⟩⟩⟩⟩⟩⟩⟩⟩⟩⟩⟩) ?_
  refine cL (id := .a) (aR z.log0 rfl) rfl rfl (fun _ _ _ _ => iU rfl rfl rfl) (⟨.inr trivial, ⟨.inr trivial, ⟨.inr trivial, ⟨.inr trivial, ⟨.inr trivial, ⟨.inr trivial, ⟨.inr trivial, ⟨.inr trivial, ⟨.inr trivial, ⟨.inr trivial, ⟨.inr trivial, ⟨.inr trivial, trivial⟩⟩⟩⟩⟩⟩⟩⟩⟩⟩⟩⟩) ?_
  rintro _ mY _ ⟨ht, rfl, b8, _⟩ my kB
  replace b8 := HS.lg b8 z kB
  generalize ({ mY with log := my } : Heap) = nU at b8 ⊢
  have b8 : HS _ _ _ [_, _, _, _, _, [(ht, .cells [(.bool false), (iI 0)] none false)]] _ := b8
  refine cL (id := .a) (aR b8.log0 rfl) rfl rfl (fun _ _ _ _ => iU rfl rfl rfl) (⟨.inr trivial, ⟨.inr trivial, ⟨.inr trivial, ⟨.inr trivial, ⟨.inr trivial, ⟨.inr trivial, ⟨.inr trivial, ⟨.inr trivial, ⟨.inr trivial, ⟨.inr trivial, ⟨.inr trivial, ⟨.inr trivial, ⟨.inr trivial, trivial⟩⟩⟩⟩⟩⟩⟩⟩⟩⟩⟩⟩⟩) ?_
  rintro _ mZ _ ⟨hu, rfl, bb, _⟩ mz kC
  replace bb := HS.lg bb b8 kC
  generalize ({ mZ with log := mz } : Heap) = nV at bb ⊢
  have bb : HS _ _ _ [_, _, _, _, _, _, [(hu, .cells [(.bool false), (iI 0)] none false)]] _ := bb
  refine jz (id := .x [ht]) (aw (q := 5) bb.log0 rfl rfl rfl rfl rfl rfl rfl rfl rfl) rfl (by rintro _ _ _ ⟨_, hwr⟩; exact dh rfl rfl (Wr.did hwr)) (⟨.inl rfl, ⟨.inl rfl, ⟨.inr (SR.nin N bb (i := 5) (j := 0) rfl (by omega)), ⟨.inr trivial, ⟨.inr (HS.nin bb (i := 2) (j := 5) rfl rfl (by decide) (List.Mem.head _)), ⟨.inr trivial, ⟨.inr (HS.nin bb (i := 1) (j := 5) rfl rfl (by decide) (List.Mem.head _)), ⟨.inr trivial, ⟨.inl rfl, ⟨.inl rfl, ⟨.inl rfl, ⟨.inl rfl, ⟨.inl rfl, ⟨.inl rfl, trivial⟩⟩⟩⟩⟩⟩⟩⟩⟩⟩⟩⟩⟩⟩) ?_
  rintro _ lj _ ⟨bl, _⟩ kM hV
  replace bl := HS.lg bl bb hV
  generalize ({ lj with log := kM } : Heap) = nk at bl ⊢
  have bl : HS _ _ _ [_, _, _, _, _, [(ht, .cells [(.bool (a.locs.getD iv.i.a.toNat default).inS), (iI (a.locs.getD iv.i.a.toNat default).idx)] none false)], _] _ := bl
  refine jz (id := .x [hu]) (aw (q := 6) bl.log0 rfl rfl rfl rfl rfl rfl rfl rfl rfl) rfl (by rintro _ _ _ ⟨_, hwr⟩; exact dh rfl rfl (Wr.did hwr)) (⟨.inl rfl, ⟨.inl rfl, ⟨.inl rfl, ⟨.inl rfl, ⟨.inl rfl, ⟨.inl rfl, ⟨.inl rfl, ⟨.inl rfl, ⟨.inl rfl, ⟨.inl rfl, ⟨.inl rfl, ⟨.inl rfl, ⟨.inl rfl, ⟨.inl rfl, ⟨.inl rfl, trivial⟩⟩⟩⟩⟩⟩⟩⟩⟩⟩⟩⟩⟩⟩⟩) ?_
  rintro _ ll _ ⟨A, _⟩ kN hW
  replace A := HS.lg A bl hW
  generalize ({ ll with log := kN } : Heap) = nl at A ⊢
  have A : HS _ _ _ [_, _, _, _, _, _, [(hu, .cells [(.bool (a.locs.getD iv.i.b.toNat default).inS), (iI (a.locs.getD iv.i.b.toNat default).idx)] none false)]] _ := A
  refine bU ?_
  refine aq 3 rfl ?_
  refine wR 1 [(0, .o kg), (1, .o ki), (2, .o (.bool (((a.locs.getD iv.i.a.toNat default).inS == (a.locs.getD iv.i.b.toNat default).inS) && (((a.locs.getD iv.i.a.toNat default).idx == (a.locs.getD iv.i.b.toNat default).idx) && true))))] 92 95 [] [(92, (.bool (((a.locs.getD iv.i.a.toNat default).inS == (a.locs.getD iv.i.b.toNat default).inS) && (((a.locs.getD iv.i.a.toNat default).idx == (a.locs.getD iv.i.b.toNat default).idx) && true))))] (vA (qn 57 0 2 (HS.hc A (i := 5) rfl) rfl rfl rfl rfl) (vA (qn 57 0 2 (HS.hc A (i := 6) rfl) rfl rfl rfl rfl) (vA (agEq (P := Tryd.prog) (t := 57) (xs := [(.bool (a.locs.getD iv.i.a.toNat default).inS), (iI (a.locs.getD iv.i.a.toNat default).idx)]) (ys := [(.bool (a.locs.getD iv.i.b.toNat default).inS), (iI (a.locs.getD iv.i.b.toNat default).idx)]) (bs := [((a.locs.getD iv.i.a.toNat default).inS == (a.locs.getD iv.i.b.toNat default).inS), ((a.locs.getD iv.i.a.toNat default).idx == (a.locs.getD iv.i.b.toNat default).idx)]) rfl rfl rfl (by kernel_rfl) (by kernel_rfl) (.cons ⟨by decide, _, _, rfl, rfl, eqB rfl⟩ (.cons ⟨by decide, _, _, rfl, rfl, eqI rfl⟩ .nil))) trivial))) rfl fun _ => ?_
  refine ap 1 1 (v := (((a.locs.getD iv.i.a.toNat default).inS == (a.locs.getD iv.i.b.toNat default).inS) && (((a.locs.getD iv.i.a.toNat default).idx == (a.locs.getD iv.i.b.toNat default).idx) && true))) rfl rfl rfl rfl (fun dd => ?_) (fun dd => ?_)
  ·
   have e4 := dd
   try simp only [BS] at e4
   refine wR 1 [] 4 4 [] [(4, (.slice none 0 0))] trivial rfl fun _ => ?_
   refine ah ⟨.inr rfl, _, rfl, none, 0, ([] : List InsT), [], _, (fT (ag) U), (HS.cons (HS.forget A)), rfl, (OS.nil : OS _ _ _ []), (by rw [← exp_m hal hrg ci]; exact mov1 (loc_ext (by simp_all)))⟩
  have e4 := dd
  try simp only [BS] at e4
  have kX : ¬ ((atV a.locs iv.i.a).inS = (atV a.locs iv.i.b).inS ∧ (atV a.locs iv.i.a).idx = (atV a.locs iv.i.b).idx) := fun h => by simp_all
  refine wR 1 [(1, .o (.bool (a.locs.getD iv.i.b.toNat default).inS)), (4, .o (.bool (a.locs.getD iv.i.a.toNat default).inS))] 96 103 [] [(96, (.bool ((a.locs.getD iv.i.b.toNat default).inS && (!(a.locs.getD iv.i.a.toNat default).inS))))] (vA (ql 4 0 (HS.hc A (i := 6) rfl) rfl rfl) (vA (fun (g1 : (a.locs.getD iv.i.b.toNat default).inS = true) => (ql 4 0 (HS.hc A (i := 5) rfl) rfl rfl)) trivial)) rfl fun _ => ?_
  refine ap 1 1 (v := ((a.locs.getD iv.i.b.toNat default).inS && (!(a.locs.getD iv.i.a.toNat default).inS))) rfl rfl rfl rfl (fun dk => ?_) (fun dk => ?_)
  ·
   have e5 := dk
   try simp only [BS] at e5
   refine aa ?_
   refine wRo 4 0 [(1, .o (iI (a.locs.getD iv.i.a.toNat default).idx)), (3, .o (iI (a.locs.getD iv.i.b.toNat default).idx))] 104 107 [] [(105, (iI (a.locs.getD iv.i.a.toNat default).idx)), (107, (iI (a.locs.getD iv.i.b.toNat default).idx))] (vA (ql 3 1 (HS.hc A (i := 5) rfl) rfl rfl) (vA (ql 3 1 (HS.hc A (i := 6) rfl) rfl rfl) trivial)) rfl fun _ => ?_
   refine az (am rfl rfl rfl) rfl rfl (iu ex (a.locs.getD iv.i.a.toNat default).idx (a.locs.getD iv.i.b.toNat default).idx (HS.call A) (by first | (dsimp only; omega) | omega) (by first | (dsimp only; omega) | omega) hT) ?_
   rintro _ nH ⟨oc, nA, kp, d2, rfl, lw, lz, lA, lB, lC, rfl⟩
   replace d2 : HS _ _ _ [_, _, _, _, _, _, _] _ := HS.back A rfl d2
   refine aC (aP (α := InsT) (ps := [(0, (.agg ⟨[(iI (⟨36, (a.locs.getD iv.i.a.toNat default).idx, 0, 0, (a.locs.getD iv.i.b.toNat default).idx⟩ : InsT).op), (iI (⟨36, (a.locs.getD iv.i.a.toNat default).idx, 0, 0, (a.locs.getD iv.i.b.toNat default).idx⟩ : InsT).a), (iI (⟨36, (a.locs.getD iv.i.a.toNat default).idx, 0, 0, (a.locs.getD iv.i.b.toNat default).idx⟩ : InsT).b), (iI (⟨36, (a.locs.getD iv.i.a.toNat default).idx, 0, 0, (a.locs.getD iv.i.b.toNat default).idx⟩ : InsT).c), (iI (⟨36, (a.locs.getD iv.i.a.toNat default).idx, 0, 0, (a.locs.getD iv.i.b.toNat default).idx⟩ : InsT).n)]⟩))]) (cells := [(iI (⟨36, (a.locs.getD iv.i.a.toNat default).idx, 0, 0, (a.locs.getD iv.i.b.toNat default).idx⟩ : InsT).op), (iI (⟨36, (a.locs.getD iv.i.a.toNat default).idx, 0, 0, (a.locs.getD iv.i.b.toNat default).idx⟩ : InsT).a), (iI (⟨36, (a.locs.getD iv.i.a.toNat default).idx, 0, 0, (a.locs.getD iv.i.b.toNat default).idx⟩ : InsT).b), (iI (⟨36, (a.locs.getD iv.i.a.toNat default).idx, 0, 0, (a.locs.getD iv.i.b.toNat default).idx⟩ : InsT).c), (iI (⟨36, (a.locs.getD iv.i.a.toNat default).idx, 0, 0, (a.locs.getD iv.i.b.toNat default).idx⟩ : InsT).n)]) ([(⟨36, (a.locs.getD iv.i.a.toNat default).idx, 0, 0, (a.locs.getD iv.i.b.toNat default).idx⟩ : InsT)] : List InsT) d2 rfl rfl rfl (by kernel_rfl) ⟨[(iI (⟨36, (a.locs.getD iv.i.a.toNat default).idx, 0, 0, (a.locs.getD iv.i.b.toNat default).idx⟩ : InsT).op), (iI (⟨36, (a.locs.getD iv.i.a.toNat default).idx, 0, 0, (a.locs.getD iv.i.b.toNat default).idx⟩ : InsT).a), (iI (⟨36, (a.locs.getD iv.i.a.toNat default).idx, 0, 0, (a.locs.getD iv.i.b.toNat default).idx⟩ : InsT).b), (iI (⟨36, (a.locs.getD iv.i.a.toNat default).idx, 0, 0, (a.locs.getD iv.i.b.toNat default).idx⟩ : InsT).c), (iI (⟨36, (a.locs.getD iv.i.a.toNat default).idx, 0, 0, (a.locs.getD iv.i.b.toNat default).idx⟩ : InsT).n)], [], rfl, ⟨rfl, by first | (dsimp only; omega) | omega, by first | (dsimp only; omega) | omega, by first | (dsimp only; omega) | omega, by first | (dsimp only; omega) | omega, by first | (dsimp only; omega) | omega⟩, rfl⟩ rfl) rfl rfl ?_
   rintro _ nI jq ⟨hn, i3, rfl, kD, (kI : HS _ _ _ [_, _, _, _, _, _, _, jq] _), _⟩
   refine wa (.slice hn ([(⟨36, (a.locs.getD iv.i.a.toNat default).idx, 0, 0, (a.locs.getD iv.i.b.toNat default).idx⟩ : InsT)] : List InsT).length i3) rfl rfl rfl ?_
   refine ab 1 rfl ?_
   refine ah ⟨.inr rfl, _, rfl, hn, i3, ([(⟨36, (a.locs.getD iv.i.a.toNat default).idx, 0, 0, (a.locs.getD iv.i.b.toNat default).idx⟩ : InsT)] : List InsT), jq, _, (fT (fT (ag) U) kp), (HS.only kI (i := 7) rfl), rfl, kD, (by rw [← exp_m hal hrg ci]; exact mov2 kX (by assumption))⟩
  have e5 := dk
  try simp only [BS] at e5
  refine wR 1 [(1, .o (.bool (a.locs.getD iv.i.a.toNat default).inS)), (4, .o (.bool (a.locs.getD iv.i.b.toNat default).inS))] 110 117 [] [(110, (.bool ((a.locs.getD iv.i.a.toNat default).inS && (!(a.locs.getD iv.i.b.toNat default).inS))))] (vA (ql 4 0 (HS.hc A (i := 5) rfl) rfl rfl) (vA (fun (g1 : (a.locs.getD iv.i.a.toNat default).inS = true) => (ql 4 0 (HS.hc A (i := 6) rfl) rfl rfl)) trivial)) rfl fun _ => ?_
  refine ap 1 4 (v := ((a.locs.getD iv.i.a.toNat default).inS && (!(a.locs.getD iv.i.b.toNat default).inS))) rfl rfl rfl rfl (fun dl => ?_) (fun dl => ?_)
  ·
   have fd := dl
   try simp only [BS] at fd
   refine aa ?_
   refine wRo 4 0 [(1, .o (iI (a.locs.getD iv.i.b.toNat default).idx)), (3, .o (iI (a.locs.getD iv.i.a.toNat default).idx))] 118 121 [] [(119, (iI (a.locs.getD iv.i.b.toNat default).idx)), (121, (iI (a.locs.getD iv.i.a.toNat default).idx))] (vA (ql 3 1 (HS.hc A (i := 6) rfl) rfl rfl) (vA (ql 3 1 (HS.hc A (i := 5) rfl) rfl rfl) trivial)) rfl fun _ => ?_
   refine az (am rfl rfl rfl) rfl rfl (jD ex (a.locs.getD iv.i.b.toNat default).idx (a.locs.getD iv.i.a.toNat default).idx (HS.call A) (by first | (dsimp only; omega) | omega) (by first | (dsimp only; omega) | omega) hT) ?_
   rintro _ nJ ⟨od, nB, kt, d3, rfl, lD, lE, lF, lG, lH, rfl⟩
   replace d3 : HS _ _ _ [_, _, _, _, _, _, _] _ := HS.back A rfl d3
   refine aC (aP (α := InsT) (ps := [(0, (.agg ⟨[(iI (⟨37, (a.locs.getD iv.i.b.toNat default).idx, 0, 0, (a.locs.getD iv.i.a.toNat default).idx⟩ : InsT).op), (iI (⟨37, (a.locs.getD iv.i.b.toNat default).idx, 0, 0, (a.locs.getD iv.i.a.toNat default).idx⟩ : InsT).a), (iI (⟨37, (a.locs.getD iv.i.b.toNat default).idx, 0, 0, (a.locs.getD iv.i.a.toNat default).idx⟩ : InsT).b), (iI (⟨37, (a.locs.getD iv.i.b.toNat default).idx, 0, 0, (a.locs.getD iv.i.a.toNat default).idx⟩ : InsT).c), (iI (⟨37, (a.locs.getD iv.i.b.toNat default).idx, 0, 0, (a.locs.getD iv.i.a.toNat default).idx⟩ : InsT).n)]⟩))]) (cells := [(iI (⟨37, (a.locs.getD iv.i.b.toNat default).idx, 0, 0, (a.locs.getD iv.i.a.toNat default).idx⟩ : InsT).op), (iI (⟨37, (a.locs.getD iv.i.b.toNat default).idx, 0, 0, (a.locs.getD iv.i.a.toNat default).idx⟩ : InsT).a), (iI (⟨37, (a.locs.getD iv.i.b.toNat default).idx, 0, 0, (a.locs.getD iv.i.a.toNat default).idx⟩ : InsT).b), (iI (⟨37, (a.locs.getD iv.i.b.toNat default).idx, 0, 0, (a.locs.getD iv.i.a.toNat default).idx⟩ : InsT).c), (iI (⟨37, (a.locs.getD iv.i.b.toNat default).idx, 0, 0, (a.locs.getD iv.i.a.toNat default).idx⟩ : InsT).n)]) ([(⟨37, (a.locs.getD iv.i.b.toNat default).idx, 0, 0, (a.locs.getD iv.i.a.toNat default).idx⟩ : InsT)] : List InsT) d3 rfl rfl rfl (by kernel_rfl) ⟨[(iI (⟨37, (a.locs.getD iv.i.b.toNat default).idx, 0, 0, (a.locs.getD iv.i.a.toNat default).idx⟩ : InsT).op), (iI (⟨37, (a.locs.getD iv.i.b.toNat default).idx, 0, 0, (a.locs.getD iv.i.a.toNat default).idx⟩ : InsT).a), (iI (⟨37, (a.locs.getD iv.i.b.toNat default).idx, 0, 0, (a.locs.getD iv.i.a.toNat default).idx⟩ : InsT).b), (iI (⟨37, (a.locs.getD iv.i.b.toNat default).idx, 0, 0, (a.locs.getD iv.i.a.toNat default).idx⟩ : InsT).c), (iI (⟨37, (a.locs.getD iv.i.b.toNat default).idx, 0, 0, (a.locs.getD iv.i.a.toNat default).idx⟩ : InsT).n)], [], rfl, ⟨rfl, by first | (dsimp only; omega) | omega, by first | (dsimp only; omega) | omega, by first | (dsimp only; omega) | omega, by first | (dsimp only; omega) | omega, by first | (dsimp only; omega) | omega⟩, rfl⟩ rfl) rfl rfl ?_
   rintro _ nK jw ⟨hp, ja, rfl, kE, (kJ : HS _ _ _ [_, _, _, _, _, _, _, jw] _), _⟩
   refine wa (.slice hp ([(⟨37, (a.locs.getD iv.i.b.toNat default).idx, 0, 0, (a.locs.getD iv.i.a.toNat default).idx⟩ : InsT)] : List InsT).length ja) rfl rfl rfl ?_
   refine ab 1 rfl ?_
   refine ah ⟨.inr rfl, _, rfl, hp, ja, ([(⟨37, (a.locs.getD iv.i.b.toNat default).idx, 0, 0, (a.locs.getD iv.i.a.toNat default).idx⟩ : InsT)] : List InsT), jw, _, (fT (fT (ag) U) kt), (HS.only kJ (i := 7) rfl), rfl, kE, (by rw [← exp_m hal hrg ci]; exact mov3 (by assumption))⟩
  have fd := dl
  try simp only [BS] at fd
  have av : iv.i.op ≠ 38 := by omega
  refine aa ?_
  let kj : Value := (.agg ⟨[(.slice E a.locs.length J), (.slice cc a.spi.length ch), (iI a.slots)]⟩)
  refine wRo 2 0 [(0, .o c8), (1, .o kj)] 148 149 [] [(148, c8), (149, kj)] (vA (qn 50 0 5 (HS.hc A (i := 2) rfl) rfl rfl rfl rfl) (vA (qn 40 0 3 (HS.hc A (i := 1) rfl) rfl rfl rfl rfl) trivial)) rfl fun _ => ?_
  refine az (am rfl rfl rfl) rfl rfl (xop_c ex (⟨iv.i.op, iv.i.a, iv.i.b, iv.i.c, iv.i.n⟩ : InsT) a (HS.call A) (by first | (dsimp only; omega) | omega) (by first | (dsimp only; omega) | omega) (by first | (dsimp only; omega) | omega) (by first | (dsimp only; omega) | omega) (by first | (dsimp only; omega) | omega) N dt (by first | (dsimp only; omega) | omega) hT (by first | assumption | exact fun h => rf.a (h.elim .inl fun h => .inr (.inl h)) | exact rf.b | exact fun h => rf.c ((inf4 hal av).1 h)) (by first | assumption | exact fun h => rf.a (h.elim .inl fun h => .inr (.inl h)) | exact rf.b | exact fun h => rf.c ((inf4 hal av).1 h)) (by first | assumption | exact fun h => rf.a (h.elim .inl fun h => .inr (.inl h)) | exact rf.b | exact fun h => rf.c ((inf4 hal av).1 h)) (by first | assumption | exact fun h => rf.a (h.elim .inl fun h => .inr (.inl h)) | exact rf.b | exact fun h => rf.c ((inf4 hal av).1 h)) (by first | assumption | exact fun h => rf.a (h.elim .inl fun h => .inr (.inl h)) | exact rf.b | exact fun h => rf.c ((inf4 hal av).1 h))) ?_
  rintro _ nL ⟨g7, he, oa, j0, nC, ku, d4, rfl, h5, rfl⟩
  replace d4 : HS _ _ _ [_, _, _, _, _, _, _, j0] _ := HS.back A rfl d4
  refine wa (.slice g7 (gv (aD (⟨iv.i.op, iv.i.a, iv.i.b, iv.i.c, iv.i.n⟩ : InsT).op) (⟨iv.i.op, iv.i.a, iv.i.b, iv.i.c, iv.i.n⟩ : InsT) a.locs).length he) rfl rfl rfl ?_
  refine ab 1 rfl ?_
  refine ah ⟨.inr rfl, _, rfl, g7, he, gv (aD (⟨iv.i.op, iv.i.a, iv.i.b, iv.i.c, iv.i.n⟩ : InsT).op) (⟨iv.i.op, iv.i.a, iv.i.b, iv.i.c, iv.i.n⟩ : InsT) a.locs, j0, _, (fT (fT (ag) U) ku), (HS.only d4 (i := 7) rfl), rfl, h5, (by rw [← exp_m hal hrg ci, ← mov4 kX (by simp_all) (by simp_all), vin_eq av])⟩
 have e0 := go
 try simp only [BS] at e0
 have ci := e0
 refine wR 1 [] 124 125 [] [(124, (.bool (iv.i.op == 38)))] trivial rfl fun _ => ?_
 refine ap 1 3 (v := (iv.i.op == 38)) rfl rfl rfl rfl (fun dn => ?_) (fun dn => ?_)
 ·
  have c0 := dn
  try simp only [BS] at c0
  have av := c0
  have hA := rf.a (.inr (.inr (.inr av)))
  refine aa ?_
  obtain ⟨nq, hb⟩ := Sv.view (SR.sv N z)
  have m8 := LocT.fx (hb iv.i.a.toNat)
  let kk : Value := (.agg ⟨[(.bool (a.locs.getD iv.i.a.toNat default).inS), (iI (a.locs.getD iv.i.a.toNat default).idx)]⟩)
  refine wRo 6 0 [(1, .o (.slice E a.locs.length J)), (3, .o (iI iv.i.a)), (5, .o kk)] 126 131 [] [(131, kk)] (vA (ql 37 0 (HS.hc z (i := 1) rfl) rfl rfl) (vA (ql 3 1 (HS.hc z (i := 2) rfl) rfl rfl) (vA (Sv.ix (j := iv.i.a) (SR.sv N z) (by first | (dsimp only; omega) | omega) (by first | (dsimp only; omega) | omega)) (vA (qn 57 0 2 (LocT.vw (hb iv.i.a.toNat) (by first | (dsimp only; omega) | omega)) rfl rfl rfl rfl) trivial)))) rfl fun _ => ?_
  refine aC (aR z rfl) rfl rfl ?_
  rintro _ nM _ ⟨c9, rfl, (kK : HS _ _ _ [_, _, _, _, _, [(c9, .cells [(.bool false), (iI 0)] none false)]] _), _⟩
  refine aF (aw (q := 5) kK rfl rfl rfl rfl rfl rfl rfl rfl rfl) rfl ?_
  rintro _ nN _ ⟨(a5 : HS _ _ _ [_, _, _, _, _, [(c9, .cells [(.bool (a.locs.getD iv.i.a.toNat default).inS), (iI (a.locs.getD iv.i.a.toNat default).idx)] none false)]] _), _⟩
  refine ab 2 rfl ?_
  refine wR 1 [(1, .o (.bool (a.locs.getD iv.i.a.toNat default).inS))] 132 134 [] [(134, (.bool (!(a.locs.getD iv.i.a.toNat default).inS)))] (vA (ql 4 0 (HS.hc a5 (i := 5) rfl) rfl rfl) trivial) rfl fun _ => ?_
  refine ap 1 1 (v := (!(a.locs.getD iv.i.a.toNat default).inS)) rfl rfl rfl rfl (fun ds => ?_) (fun ds => ?_)
  ·
   have fi := ds
   try simp only [BS] at fi
   refine aa ?_
   refine wRo 4 0 [(1, .o (iI (a.locs.getD iv.i.a.toNat default).idx)), (3, .o (iI iv.i.n))] 135 138 [] [(136, (iI (a.locs.getD iv.i.a.toNat default).idx)), (138, (iI iv.i.n))] (vA (ql 3 1 (HS.hc a5 (i := 5) rfl) rfl rfl) (vA (ql 2 4 (HS.hc a5 (i := 2) rfl) rfl rfl) trivial)) rfl fun _ => ?_
   refine az (am rfl rfl rfl) rfl rfl (iu ex (a.locs.getD iv.i.a.toNat default).idx iv.i.n (HS.call a5) (by first | (dsimp only; omega) | omega) (by first | (dsimp only; omega) | omega) hT) ?_
   rintro _ nP ⟨oe, nD, kv, em, rfl, lI, lJ, lK, lL, lM, rfl⟩
   replace em : HS _ _ _ [_, _, _, _, _, _] _ := HS.back a5 rfl em
   refine aC (aP (α := InsT) (ps := [(0, (.agg ⟨[(iI (⟨36, (a.locs.getD iv.i.a.toNat default).idx, 0, 0, iv.i.n⟩ : InsT).op), (iI (⟨36, (a.locs.getD iv.i.a.toNat default).idx, 0, 0, iv.i.n⟩ : InsT).a), (iI (⟨36, (a.locs.getD iv.i.a.toNat default).idx, 0, 0, iv.i.n⟩ : InsT).b), (iI (⟨36, (a.locs.getD iv.i.a.toNat default).idx, 0, 0, iv.i.n⟩ : InsT).c), (iI (⟨36, (a.locs.getD iv.i.a.toNat default).idx, 0, 0, iv.i.n⟩ : InsT).n)]⟩))]) (cells := [(iI (⟨36, (a.locs.getD iv.i.a.toNat default).idx, 0, 0, iv.i.n⟩ : InsT).op), (iI (⟨36, (a.locs.getD iv.i.a.toNat default).idx, 0, 0, iv.i.n⟩ : InsT).a), (iI (⟨36, (a.locs.getD iv.i.a.toNat default).idx, 0, 0, iv.i.n⟩ : InsT).b), (iI (⟨36, (a.locs.getD iv.i.a.toNat default).idx, 0, 0, iv.i.n⟩ : InsT).c), (iI (⟨36, (a.locs.getD iv.i.a.toNat default).idx, 0, 0, iv.i.n⟩ : InsT).n)]) ([(⟨36, (a.locs.getD iv.i.a.toNat default).idx, 0, 0, iv.i.n⟩ : InsT)] : List InsT) em rfl rfl rfl (by kernel_rfl) ⟨[(iI (⟨36, (a.locs.getD iv.i.a.toNat default).idx, 0, 0, iv.i.n⟩ : InsT).op), (iI (⟨36, (a.locs.getD iv.i.a.toNat default).idx, 0, 0, iv.i.n⟩ : InsT).a), (iI (⟨36, (a.locs.getD iv.i.a.toNat default).idx, 0, 0, iv.i.n⟩ : InsT).b), (iI (⟨36, (a.locs.getD iv.i.a.toNat default).idx, 0, 0, iv.i.n⟩ : InsT).c), (iI (⟨36, (a.locs.getD iv.i.a.toNat default).idx, 0, 0, iv.i.n⟩ : InsT).n)], [], rfl, ⟨rfl, by first | (dsimp only; omega) | omega, by first | (dsimp only; omega) | omega, by first | (dsimp only; omega) | omega, by first | (dsimp only; omega) | omega, by first | (dsimp only; omega) | omega⟩, rfl⟩ rfl) rfl rfl ?_
   rintro _ nQ j1 ⟨hq, jb, rfl, kF, (kL : HS _ _ _ [_, _, _, _, _, _, j1] _), _⟩
   refine wa (.slice hq ([(⟨36, (a.locs.getD iv.i.a.toNat default).idx, 0, 0, iv.i.n⟩ : InsT)] : List InsT).length jb) rfl rfl rfl ?_
   refine ab 1 rfl ?_
   refine ah ⟨.inr rfl, _, rfl, hq, jb, ([(⟨36, (a.locs.getD iv.i.a.toNat default).idx, 0, 0, iv.i.n⟩ : InsT)] : List InsT), j1, _, (fT (fT (ag) U) kv), (HS.only kL (i := 6) rfl), rfl, kF, (by exact par1 hal hrg av (by assumption))⟩
  have fi := ds
  try simp only [BS] at fi
  refine aQ rfl ?_
  refine aB (v := (.pointer (some ⟨b6, 4, none⟩))) (id := .v) (cg rfl rfl) rfl rfl (ep rfl) (dI _) ?_
  refine aB (v := (iI iv.i.n)) (id := .l b6) (bh (i := 4) rfl rfl (HS.hc a5.log0 (i := 2) rfl) rfl rfl) rfl rfl (bg rfl) (⟨.inl rfl, trivial⟩) ?_
  refine aX (W := []) (am rfl rfl rfl) rfl rfl rfl (iu ex (5) iv.i.n (HS.call a5.log0) (by first | (dsimp only; omega) | omega) (by first | (dsimp only; omega) | omega) hT) (⟨.inl rfl, ⟨.inl rfl, trivial⟩⟩) ?_
  rintro _ lm ⟨og, nE, ha, T, rfl, lN, lO, lP, lQ, lR, rfl⟩
  refine ⟨Wr.did T.log, fun kO hX => ?_⟩
  replace T := HS.back a5.log0 rfl T
  replace T := HS.lg T a5 hX
  generalize ({ lm with log := kO } : Heap) = nm at T ⊢
  have T : HS _ _ _ [_, _, _, _, _, _] _ := T
  replace hT := hT.mono ha
  refine aB (v := (.pointer (some ⟨c9, 1, none⟩))) (id := .v) (cg rfl rfl) rfl rfl (ep rfl) (dI _) ?_
  refine aB (v := (iI (a.locs.getD iv.i.a.toNat default).idx)) (id := .l c9) (bh (i := 1) rfl rfl (HS.hc T.log0 (i := 5) rfl) rfl rfl) rfl rfl (bg rfl) (⟨.inl rfl, ⟨.inr List.not_mem_nil, ⟨.inr trivial, ⟨.inr trivial, trivial⟩⟩⟩⟩) ?_
  refine aX (W := []) (am rfl rfl rfl) rfl rfl rfl (jD ex (5) (a.locs.getD iv.i.a.toNat default).idx (HS.call T.log0) (by first | (dsimp only; omega) | omega) (by first | (dsimp only; omega) | omega) hT) (⟨.inl rfl, ⟨.inl rfl, ⟨.inl rfl, ⟨.inl rfl, ⟨.inl rfl, trivial⟩⟩⟩⟩⟩) ?_
  rintro _ ln ⟨oh, nF, kw, an, rfl, lS, lT, lU, lV, lW, rfl⟩
  refine ⟨Wr.did an.log, fun kP hY => ?_⟩
  replace an := HS.back T.log0 rfl an
  replace an := HS.lg an T hY
  generalize ({ ln with log := kP } : Heap) = nn at an ⊢
  have an : HS _ _ _ [_, _, _, _, _, _] _ := an
  refine cL (id := .a) (aP (α := InsT) (ps := [(0, (.agg ⟨[(iI (⟨36, (5 : Int), 0, 0, iv.i.n⟩ : InsT).op), (iI (⟨36, (5 : Int), 0, 0, iv.i.n⟩ : InsT).a), (iI (⟨36, (5 : Int), 0, 0, iv.i.n⟩ : InsT).b), (iI (⟨36, (5 : Int), 0, 0, iv.i.n⟩ : InsT).c), (iI (⟨36, (5 : Int), 0, 0, iv.i.n⟩ : InsT).n)]⟩)), (1, (.agg ⟨[(iI (⟨37, (5 : Int), 0, 0, (a.locs.getD iv.i.a.toNat default).idx⟩ : InsT).op), (iI (⟨37, (5 : Int), 0, 0, (a.locs.getD iv.i.a.toNat default).idx⟩ : InsT).a), (iI (⟨37, (5 : Int), 0, 0, (a.locs.getD iv.i.a.toNat default).idx⟩ : InsT).b), (iI (⟨37, (5 : Int), 0, 0, (a.locs.getD iv.i.a.toNat default).idx⟩ : InsT).c), (iI (⟨37, (5 : Int), 0, 0, (a.locs.getD iv.i.a.toNat default).idx⟩ : InsT).n)]⟩))]) (cells := [(iI (⟨36, (5 : Int), 0, 0, iv.i.n⟩ : InsT).op), (iI (⟨36, (5 : Int), 0, 0, iv.i.n⟩ : InsT).a), (iI (⟨36, (5 : Int), 0, 0, iv.i.n⟩ : InsT).b), (iI (⟨36, (5 : Int), 0, 0, iv.i.n⟩ : InsT).c), (iI (⟨36, (5 : Int), 0, 0, iv.i.n⟩ : InsT).n), (iI (⟨37, (5 : Int), 0, 0, (a.locs.getD iv.i.a.toNat default).idx⟩ : InsT).op), (iI (⟨37, (5 : Int), 0, 0, (a.locs.getD iv.i.a.toNat default).idx⟩ : InsT).a), (iI (⟨37, (5 : Int), 0, 0, (a.locs.getD iv.i.a.toNat default).idx⟩ : InsT).b), (iI (⟨37, (5 : Int), 0, 0, (a.locs.getD iv.i.a.toNat default).idx⟩ : InsT).c), (iI (⟨37, (5 : Int), 0, 0, (a.locs.getD iv.i.a.toNat default).idx⟩ : InsT).n)]) ([(⟨36, (5 : Int), 0, 0, iv.i.n⟩ : InsT), (⟨37, (5 : Int), 0, 0, (a.locs.getD iv.i.a.toNat default).idx⟩ : InsT)] : List InsT) an.log0 rfl rfl rfl (by kernel_rfl) ⟨[(iI (⟨36, (5 : Int), 0, 0, iv.i.n⟩ : InsT).op), (iI (⟨36, (5 : Int), 0, 0, iv.i.n⟩ : InsT).a), (iI (⟨36, (5 : Int), 0, 0, iv.i.n⟩ : InsT).b), (iI (⟨36, (5 : Int), 0, 0, iv.i.n⟩ : InsT).c), (iI (⟨36, (5 : Int), 0, 0, iv.i.n⟩ : InsT).n)], [(iI (⟨37, (5 : Int), 0, 0, (a.locs.getD iv.i.a.toNat default).idx⟩ : InsT).op), (iI (⟨37, (5 : Int), 0, 0, (a.locs.getD iv.i.a.toNat default).idx⟩ : InsT).a), (iI (⟨37, (5 : Int), 0, 0, (a.locs.getD iv.i.a.toNat default).idx⟩ : InsT).b), (iI (⟨37, (5 : Int), 0, 0, (a.locs.getD iv.i.a.toNat default).idx⟩ : InsT).c), (iI (⟨37, (5 : Int), 0, 0, (a.locs.getD iv.i.a.toNat default).idx⟩ : InsT).n)], rfl, ⟨rfl, by first | (dsimp only; omega) | omega, by first | (dsimp only; omega) | omega, by first | (dsimp only; omega) | omega, by first | (dsimp only; omega) | omega, by first | (dsimp only; omega) | omega⟩, ⟨[(iI (⟨37, (5 : Int), 0, 0, (a.locs.getD iv.i.a.toNat default).idx⟩ : InsT).op), (iI (⟨37, (5 : Int), 0, 0, (a.locs.getD iv.i.a.toNat default).idx⟩ : InsT).a), (iI (⟨37, (5 : Int), 0, 0, (a.locs.getD iv.i.a.toNat default).idx⟩ : InsT).b), (iI (⟨37, (5 : Int), 0, 0, (a.locs.getD iv.i.a.toNat default).idx⟩ : InsT).c), (iI (⟨37, (5 : Int), 0, 0, (a.locs.getD iv.i.a.toNat default).idx⟩ : InsT).n)], [], rfl, ⟨rfl, by first | (dsimp only; omega) | omega, by first | (dsimp only; omega) | omega, by first | (dsimp only; omega) | omega, by first | (dsimp only; omega) | omega, by first | (dsimp only; omega) | omega⟩, rfl⟩⟩ rfl) rfl rfl (fun _ _ _ _ => iU rfl rfl rfl) (⟨.inl rfl, ⟨.inl rfl, ⟨.inl rfl, ⟨.inl rfl, ⟨.inl rfl, ⟨.inl rfl, trivial⟩⟩⟩⟩⟩⟩) ?_
  rintro _ lp j2 ⟨hr, jc, rfl, kG, b4, _⟩ kQ h3
  replace b4 := HS.lg b4 an h3
  generalize ({ lp with log := kQ } : Heap) = np at b4 ⊢
  have b4 : HS _ _ _ [_, _, _, _, _, _, j2] _ := b4
  refine fa (.slice hr ([(⟨36, (5 : Int), 0, 0, iv.i.n⟩ : InsT), (⟨37, (5 : Int), 0, 0, (a.locs.getD iv.i.a.toNat default).idx⟩ : InsT)] : List InsT).length jc) rfl rfl rfl ?_
  refine bU ?_
  refine aq 1 rfl ?_
  refine ah ⟨.inr rfl, _, rfl, hr, jc, ([(⟨36, (5 : Int), 0, 0, iv.i.n⟩ : InsT), (⟨37, (5 : Int), 0, 0, (a.locs.getD iv.i.a.toNat default).idx⟩ : InsT)] : List InsT), j2, _, (fT (fT (fT (ag) U) ha) kw), (HS.only b4 (i := 6) rfl), rfl, kG, (by exact par2 hal hrg av (by simp_all))⟩
 have c0 := dn
 try simp only [BS] at c0
 have av : iv.i.op ≠ 38 := c0
 refine aa ?_
 let kl : Value := (.agg ⟨[(.slice E a.locs.length J), (.slice cc a.spi.length ch), (iI a.slots)]⟩)
 refine wRo 2 0 [(0, .o c8), (1, .o kl)] 148 149 [] [(148, c8), (149, kl)] (vA (qn 50 0 5 (HS.hc z (i := 2) rfl) rfl rfl rfl rfl) (vA (qn 40 0 3 (HS.hc z (i := 1) rfl) rfl rfl rfl rfl) trivial)) rfl fun _ => ?_
 refine az (am rfl rfl rfl) rfl rfl (xop_c ex (⟨iv.i.op, iv.i.a, iv.i.b, iv.i.c, iv.i.n⟩ : InsT) a (HS.call z) (by first | (dsimp only; omega) | omega) (by first | (dsimp only; omega) | omega) (by first | (dsimp only; omega) | omega) (by first | (dsimp only; omega) | omega) (by first | (dsimp only; omega) | omega) N dt (by first | (dsimp only; omega) | omega) hT (by first | assumption | exact fun h => rf.a (h.elim .inl fun h => .inr (.inl h)) | exact rf.b | exact fun h => rf.c ((inf4 hal av).1 h)) (by first | assumption | exact fun h => rf.a (h.elim .inl fun h => .inr (.inl h)) | exact rf.b | exact fun h => rf.c ((inf4 hal av).1 h)) (by first | assumption | exact fun h => rf.a (h.elim .inl fun h => .inr (.inl h)) | exact rf.b | exact fun h => rf.c ((inf4 hal av).1 h)) (by first | assumption | exact fun h => rf.a (h.elim .inl fun h => .inr (.inl h)) | exact rf.b | exact fun h => rf.c ((inf4 hal av).1 h)) (by first | assumption | exact fun h => rf.a (h.elim .inl fun h => .inr (.inl h)) | exact rf.b | exact fun h => rf.c ((inf4 hal av).1 h))) ?_
 rintro _ nR ⟨g8, hf, ob, kc, nG, kx, es, rfl, h7, rfl⟩
 replace es : HS _ _ _ [_, _, _, _, _, kc] _ := HS.back z rfl es
 refine wa (.slice g8 (gv (aD (⟨iv.i.op, iv.i.a, iv.i.b, iv.i.c, iv.i.n⟩ : InsT).op) (⟨iv.i.op, iv.i.a, iv.i.b, iv.i.c, iv.i.n⟩ : InsT) a.locs).length hf) rfl rfl rfl ?_
 refine ab 1 rfl ?_
 refine ah ⟨.inr rfl, _, rfl, g8, hf, gv (aD (⟨iv.i.op, iv.i.a, iv.i.b, iv.i.c, iv.i.n⟩ : InsT).op) (⟨iv.i.op, iv.i.a, iv.i.b, iv.i.c, iv.i.n⟩ : InsT) a.locs, kc, _, (fT (fT (ag) U) kx), (HS.only es (i := 5) rfl), rfl, h7, (by rw [← exp_n hal hrg h6 ci, vin_eq av])⟩
set_option maxHeartbeats 1000000 in
theorem rcall_c (ex : FuncId) {z : Option Addr} {A : Nat} (iv : VInT) {a1 : Option Addr} {a2 : Nat} {N : Option Addr} {T : Nat} (a : AllT) {F : Fz} {H : Heap} {R : List Fp} (hs : HS (.of H []) F H [] R) (g4 : in64 iv.i.op) (g5 : in64 iv.i.a) (g6 : in64 iv.i.b) (g7 : in64 iv.i.c) (g8 : in64 iv.i.n) (av : SR F (.slice z iv.args.length A) iv.args) (al : SR F (.slice N a.locs.length T) a.locs) (hj : SR F (.slice a1 a.spi.length a2) a.spi) (hk : in64 a.slots) (hT : TB 37 tabC F) (hargs : iv.args.length ≤ 1048576) (hA : 0 ≤ iv.i.a ∧ iv.i.a < (a.locs.length : Int)) (hg : ∀ k, k < iv.args.length → 0 ≤ iv.args.getD k 0 ∧ iv.args.getD k 0 < (a.locs.length : Int)) : C Tryd.prog 1 (KT 60 ex 37 tabC) 85 [(.agg ⟨[(iI iv.i.op), (iI iv.i.a), (iI iv.i.b), (iI iv.i.c), (iI iv.i.n), (.slice z iv.args.length A)]⟩), (.agg ⟨[(.slice N a.locs.length T), (.slice a1 a.spi.length a2), (iI a.slots)]⟩)] H fun v H' => ∃ (ar : Option Addr) (kr : Nat) (r : List InsT) (p : Fp) (F' : Fz), Fz.le F F' ∧ HS (.of H []) F' H' [p] R ∧ v = .slice ar r.length kr ∧ OS F' (.slice ar r.length kr) r p ∧ r = iV a.locs iv.args iv.args.length ++ [(⟨6, (iv.args.length : Int), 0, 0, iv.i.n⟩ : InsT)] ++ savV (atV a.locs iv.i.a).inS (atV a.locs iv.i.a).idx := by
 refine aJ Tryd.func85 rfl rfl ?_
 refine aq 1 rfl ?_
 refine aa ?_
 refine aC (be hs rfl rfl) rfl rfl ?_
 rintro _ H2 _ ⟨b1, rfl, (f0 : HS _ _ _ [[(b1, .cells [(iI iv.i.op), (iI iv.i.a), (iI iv.i.b), (iI iv.i.c), (iI iv.i.n), (.slice z iv.args.length A)] none false)]] _), _⟩
 refine aC (be f0 rfl rfl) rfl rfl ?_
 rintro _ H4 _ ⟨b3, rfl, (f1 : HS _ _ _ [_, [(b3, .cells [(.slice N a.locs.length T), (.slice a1 a.spi.length a2), (iI a.slots)] none false)]] _), _⟩
 refine wa (.slice none 0 0) rfl rfl rfl ?_
 refine ab 2 rfl ?_
 refine wR 3 [] 1 0 [5] [(5, (.slice none 0 0))] trivial rfl fun _ => ?_
 refine wR 2 [] 1 0 [6] [(6, (iI 0))] trivial rfl fun _ => ?_
 have cc := HS.snoc f1
 have cc : HS _ _ _ [_, _, []] _ := cc
 refine aE (fun (mm : Nat) f H' => ∃ (U : List InsT) (k2 : Nat) (ad : Option Addr) (ag : Nat) (V : Fp) (F' : Fz), Fz.le F F' ∧ HS (Base.of H []) F' H' [[(b1, .cells [(iI iv.i.op), (iI iv.i.a), (iI iv.i.b), (iI iv.i.c), (iI iv.i.n), (.slice z iv.args.length A)] none false)], [(b3, .cells [(.slice N a.locs.length T), (.slice a1 a.spi.length a2), (iI a.slots)] none false)], V] R ∧ OS F' (.slice ad U.length ag) U V ∧ aH f [(2, (.pointer (some ⟨b1, 0, none⟩))), (3, (.pointer (some ⟨b3, 0, none⟩))), (4, (.slice none 0 0)), (5, (.slice ad U.length ag)), (6, (iI (k2 : Int)))] ∧ mm = iv.args.length - k2 ∧ (U = iV a.locs iv.args k2) ∧ (k2 ≤ iv.args.length)) _ ⟨([] : List InsT), 0, none, 0, [], _, fR, cc, (OS.nil : OS _ (.slice none 0 0) ([] : List InsT) []), (agC rfl (agC rfl (agC rfl (agC rfl (agC rfl agN))))), rfl, (by rfl), (by first | assumption | omega | (simp at *; omega))⟩ ?_
 rintro hH f7 H7 ⟨U, k2, ad, ag, V, F7, ay, J, ax, c8, rfl, g1, g2⟩ f2
 refine au _ c8 (fun _ => ?_)
 clear c8
 replace hT := hT.mono ay
 replace al := al.mono ay
 replace av := av.mono ay
 have hol : U.length ≤ k2 := by rw [g1]; exact gM _
 refine aq 2 rfl ?_
 refine wR 1 [(2, .o (.slice z iv.args.length A))] 8 12 [] [(12, (.bool (decide ((k2 : Int) < (iv.args.length : Int)))))] (vA (ql 25 5 (HS.hc J (i := 0) rfl) rfl rfl) trivial) rfl fun _ => ?_
 refine ap 3 5 (v := (decide ((k2 : Int) < (iv.args.length : Int)))) rfl rfl rfl rfl (fun a5 => ?_) (fun a5 => ?_)
 ·
  have bl := a5
  try simp only [BS] at bl
  have hD := hg k2 (by omega)
  have hfl := iC (to := (k2 : Int)) (b := (a.locs.getD (iv.args.getD k2 0).toNat default).inS) (x := (a.locs.getD (iv.args.getD k2 0).toNat default).idx)
  refine aQ rfl ?_
  refine fm (.slice ad U.length ag) rfl rfl rfl ?_
  refine fm (iI (k2 : Int)) rfl rfl rfl ?_
  refine aB (v := (.pointer (some ⟨b3, 0, none⟩))) (id := .v) (cg rfl rfl) rfl rfl (ep rfl) (dI _) ?_
  refine aB (v := (.slice N a.locs.length T)) (id := .l b3) (bh (i := 0) rfl rfl (HS.hc J.log0 (i := 1) rfl) rfl rfl) rfl rfl (bg rfl) (⟨.inl rfl, ⟨.inr trivial, ⟨.inr trivial, trivial⟩⟩⟩) ?_
  refine aB (v := (.pointer (some ⟨b1, 5, none⟩))) (id := .v) (cg rfl rfl) rfl rfl (ep rfl) (dI _) ?_
  refine aB (v := (.slice z iv.args.length A)) (id := .l b1) (bh (i := 5) rfl rfl (HS.hc J.log0 (i := 0) rfl) rfl rfl) rfl rfl (bg rfl) (⟨.inl rfl, ⟨.inr trivial, ⟨.inr trivial, ⟨.inr trivial, ⟨.inr trivial, trivial⟩⟩⟩⟩⟩) ?_
  refine fm (iI (k2 : Int)) rfl rfl rfl ?_
  refine aB (v := (.pointer (some ⟨sB (.slice z iv.args.length A), sO (.slice z iv.args.length A) + k2 * Rp.sz Int, none⟩))) (id := .v) (br (α := Int) (j := (k2 : Int)) rfl rfl rfl rfl (SR.sv av J.log0) (by first | (dsimp only; omega) | omega) (by first | (dsimp only; omega) | omega)) rfl rfl (ep rfl) (dI _) ?_
  obtain ⟨hf, e0, d2⟩ := Sv.at (SR.sv av J.log0) (aK (x := (0 : Int)) (show k2 < iv.args.length from by first | (dsimp only; omega) | omega))
  obtain ⟨rfl, go⟩ := e0
  refine aB (v := (iI (iv.args.getD k2 0))) (id := .l (sB (.slice z iv.args.length A))) (bh (i := 0) rfl rfl d2 rfl rfl) rfl rfl (bg rfl) (⟨.inl rfl, ⟨.inl rfl, ⟨.inl rfl, ⟨.inl rfl, ⟨.inr trivial, ⟨.inr trivial, ⟨.inr trivial, ⟨.inr trivial, trivial⟩⟩⟩⟩⟩⟩⟩⟩) ?_
  refine aB (v := (.pointer (some ⟨sB (.slice N a.locs.length T), sO (.slice N a.locs.length T) + (iv.args.getD k2 0).toNat * Rp.sz LocT, none⟩))) (id := .v) (br (α := LocT) (j := (iv.args.getD k2 0)) rfl rfl rfl rfl (SR.sv al J.log0) (by first | (dsimp only; omega) | omega) (by first | (dsimp only; omega) | omega)) rfl rfl (ep rfl) (dI _) ?_
  obtain ⟨hh, e1, d3⟩ := Sv.at (SR.sv al J.log0) (aK (x := default) (show (iv.args.getD k2 0).toNat < a.locs.length from by first | (dsimp only; omega) | omega))
  obtain ⟨rfl, g0⟩ := e1
  refine aB (v := (.agg ⟨[(.bool (a.locs.getD (iv.args.getD k2 0).toNat default).inS), (iI (a.locs.getD (iv.args.getD k2 0).toNat default).idx)]⟩)) (id := .l (sB (.slice N a.locs.length T))) (bQ (i := 0) rfl rfl rfl d3 rfl rfl rfl) rfl rfl (bg rfl) (⟨.inl rfl, ⟨.inl rfl, ⟨.inl rfl, ⟨.inl rfl, ⟨.inl rfl, ⟨.inl rfl, ⟨.inl rfl, ⟨.inl rfl, ⟨.inr trivial, ⟨.inr trivial, trivial⟩⟩⟩⟩⟩⟩⟩⟩⟩⟩) ?_
  refine aX (W := []) (am rfl rfl rfl) rfl rfl rfl (hR ex (k2 : Int) (a.locs.getD (iv.args.getD k2 0).toNat default) (HS.call J.log0) (by first | (dsimp only; omega) | omega) (by first | (dsimp only; omega) | omega) hT) (⟨.inl rfl, ⟨.inl rfl, ⟨.inl rfl, ⟨.inl rfl, ⟨.inl rfl, ⟨.inl rfl, ⟨.inl rfl, ⟨.inl rfl, ⟨.inl rfl, ⟨.inl rfl, ⟨.inr trivial, trivial⟩⟩⟩⟩⟩⟩⟩⟩⟩⟩⟩) ?_
  rintro _ fd ⟨hb, hl, hI, f3, hm, b4, E, rfl, c4, rfl⟩
  refine ⟨Wr.did E.log, fun e5 c0 => ?_⟩
  replace E := HS.back J.log0 rfl E
  replace E := HS.lg E J c0
  generalize ({ fd with log := e5 } : Heap) = g9 at E ⊢
  have E : HS _ _ _ [_, _, V, f3] _ := E
  replace ax := ax.mono b4
  refine cL (id := .x (V.map Prod.fst)) (aW (α := InsT) (q := 2) ax E.log0 rfl rfl rfl (OS.sv c4 E.log0 (i := 3) rfl) rfl rfl rfl rfl rfl rfl rfl (by first | omega | (simp only [List.length_append, List.length_cons, List.length_nil]; omega))) rfl rfl (by rintro _ _ co ⟨a9, ci, rfl, b6, _, hwr⟩; exact dh rfl rfl (Wr.did hwr)) (⟨.inl rfl, ⟨.inl rfl, ⟨.inl rfl, ⟨.inl rfl, ⟨.inl rfl, ⟨.inl rfl, ⟨.inl rfl, ⟨.inl rfl, ⟨.inl rfl, ⟨.inl rfl, ⟨.inl rfl, ⟨.inl rfl, trivial⟩⟩⟩⟩⟩⟩⟩⟩⟩⟩⟩⟩) ?_
  rintro _ fi co ⟨a9, ci, rfl, b6, an, _⟩ e6 c3
  replace an := HS.lg an E c3
  generalize ({ fi with log := e6 } : Heap) = ha at an ⊢
  have an : HS _ _ _ [_, _, co, _] _ := an
  refine fa (.slice a9 (U ++ (eS (k2 : Int) (a.locs.getD (iv.args.getD k2 0).toNat default).inS (a.locs.getD (iv.args.getD k2 0).toNat default).idx)).length ci) rfl rfl rfl ?_
  refine bU ?_
  refine aq 2 rfl ?_
  refine wR 1 [] 13 14 [6] [(6, (iI ((k2 : Int) + 1)))] (vA (vi (n := (k2 : Int) + 1) (by first | (dsimp only; omega) | omega)) trivial) rfl fun _ => ?_
  refine f2 _ _ _ ?_ ⟨U ++ (eS (k2 : Int) (a.locs.getD (iv.args.getD k2 0).toNat default).inS (a.locs.getD (iv.args.getD k2 0).toNat default).idx), k2 + 1, a9, ci, co, _, (fT (ay) b4), (HS.sub an (List.sublist_append_left _ _)), b6, (agC rfl (agC rfl (agC rfl (agC rfl (agC rfl agN))))), rfl, (by rw [g1]; rfl), (by first | assumption | omega | (simp at *; omega))⟩
  omega
 have bl := a5
 try simp only [BS] at bl
 refine aa ?_
 let ds : Value := (.agg ⟨[(iI 6), (iI (iv.args.length : Int)), (iI 0), (iI 0), (iI iv.i.n)]⟩)
 refine wRo 8 0 [(2, .o (.slice z iv.args.length A)), (6, .o (iI iv.i.n))] 28 35 [] [(28, (.slice ad U.length ag)), (35, ds)] (vA (ql 25 5 (HS.hc J (i := 0) rfl) rfl rfl) (vA (ql 2 4 (HS.hc J (i := 0) rfl) rfl rfl) trivial)) rfl fun _ => ?_
 refine aC (aP (α := InsT) (ps := [(0, ds)]) (cells := [(iI 6), (iI (iv.args.length : Int)), (iI 0), (iI 0), (iI iv.i.n)]) ([(⟨6, (iv.args.length : Int), 0, 0, iv.i.n⟩ : InsT)] : List InsT) J rfl rfl rfl (by kernel_rfl) ⟨[(iI 6), (iI (iv.args.length : Int)), (iI 0), (iI 0), (iI iv.i.n)], [], rfl, ⟨rfl, by first | (dsimp only; omega) | omega, by first | (dsimp only; omega) | omega, by first | (dsimp only; omega) | omega, by first | (dsimp only; omega) | omega, by first | (dsimp only; omega) | omega⟩, rfl⟩ rfl) rfl rfl ?_
 rintro _ hn f4 ⟨hz, hE, rfl, d4, (b7 : HS _ _ _ [_, _, V, f4] _), _⟩
 refine aC (aW (α := InsT) (q := 2) ax b7 rfl rfl rfl (OS.sv d4 b7 (i := 3) rfl) rfl rfl rfl rfl rfl rfl rfl (by first | omega | (simp only [List.length_append, List.length_cons, List.length_nil]; omega))) rfl rfl ?_
 rintro _ hp dk ⟨a3, a4, rfl, a8, (a0 : HS _ _ _ [_, _, dk, _] _), _⟩
 refine wa (.slice a3 (U ++ ([(⟨6, (iv.args.length : Int), 0, 0, iv.i.n⟩ : InsT)] : List InsT)).length a4) rfl rfl rfl ?_
 refine ab 2 rfl ?_
 refine aa ?_
 obtain ⟨he, ch⟩ := Sv.view (SR.sv al a0)
 have g3 := LocT.fx (ch iv.i.a.toNat)
 let dt : Value := (.agg ⟨[(.bool (a.locs.getD iv.i.a.toNat default).inS), (iI (a.locs.getD iv.i.a.toNat default).idx)]⟩)
 refine wRo 7 0 [(1, .o (.slice N a.locs.length T)), (4, .o (iI iv.i.a)), (6, .o dt)] 38 44 [] [(44, dt)] (vA (ql 37 0 (HS.hc a0 (i := 1) rfl) rfl rfl) (vA (ql 3 1 (HS.hc a0 (i := 0) rfl) rfl rfl) (vA (Sv.ix (j := iv.i.a) (SR.sv al a0) (by first | (dsimp only; omega) | omega) (by first | (dsimp only; omega) | omega)) (vA (qn 57 0 2 (LocT.vw (ch iv.i.a.toNat) (by first | (dsimp only; omega) | omega)) rfl rfl rfl rfl) trivial)))) rfl fun _ => ?_
 refine aC (aR a0 rfl) rfl rfl ?_
 rintro _ hq _ ⟨c7, rfl, (e2 : HS _ _ _ [_, _, _, _, [(c7, .cells [(.bool false), (iI 0)] none false)]] _), _⟩
 refine aF (aw (q := 4) e2 rfl rfl rfl rfl rfl rfl rfl rfl rfl) rfl ?_
 rintro _ hr _ ⟨(Z : HS _ _ _ [_, _, _, _, [(c7, .cells [(.bool (a.locs.getD iv.i.a.toNat default).inS), (iI (a.locs.getD iv.i.a.toNat default).idx)] none false)]] _), _⟩
 refine ab 4 rfl ?_
 refine wR 1 [(1, .o (.bool (a.locs.getD iv.i.a.toNat default).inS))] 45 47 [] [(45, (.bool (a.locs.getD iv.i.a.toNat default).inS))] (vA (ql 4 0 (HS.hc Z (i := 4) rfl) rfl rfl) trivial) rfl fun _ => ?_
 refine ap 1 1 (v := (a.locs.getD iv.i.a.toNat default).inS) rfl rfl rfl rfl (fun a6 => ?_) (fun a6 => ?_)
 ·
  have bz := a6
  try simp only [BS] at bz
  refine aa ?_
  let dv : Value := (.agg ⟨[(iI 37), (iI 0), (iI 0), (iI 0), (iI (a.locs.getD iv.i.a.toNat default).idx)]⟩)
  refine wRo 4 0 [(2, .o (iI (a.locs.getD iv.i.a.toNat default).idx))] 48 51 [] [(48, (.slice a3 (U ++ ([(⟨6, (iv.args.length : Int), 0, 0, iv.i.n⟩ : InsT)] : List InsT)).length a4)), (51, dv)] (vA (ql 3 1 (HS.hc Z (i := 4) rfl) rfl rfl) trivial) rfl fun _ => ?_
  refine aC (aP (α := InsT) (ps := [(0, dv)]) (cells := [(iI 37), (iI 0), (iI 0), (iI 0), (iI (a.locs.getD iv.i.a.toNat default).idx)]) ([(⟨37, 0, 0, 0, (a.locs.getD iv.i.a.toNat default).idx⟩ : InsT)] : List InsT) Z rfl rfl rfl (by kernel_rfl) ⟨[(iI 37), (iI 0), (iI 0), (iI 0), (iI (a.locs.getD iv.i.a.toNat default).idx)], [], rfl, ⟨rfl, by first | (dsimp only; omega) | omega, by first | (dsimp only; omega) | omega, by first | (dsimp only; omega) | omega, by first | (dsimp only; omega) | omega, by first | (dsimp only; omega) | omega⟩, rfl⟩ rfl) rfl rfl ?_
  rintro _ ht f5 ⟨hB, hF, rfl, em, (b8 : HS _ _ _ [_, _, _, _, _, f5] _), _⟩
  refine aC (aW (α := InsT) (q := 2) a8 b8 rfl rfl rfl (OS.sv em b8 (i := 5) rfl) rfl rfl rfl rfl rfl rfl rfl (by first | omega | (simp only [List.length_append, List.length_cons, List.length_nil]; omega))) rfl rfl ?_
  rintro _ hu dl ⟨c5, c9, rfl, es, (e3 : HS _ _ _ [_, _, dl, _, _, _] _), _⟩
  refine wa (.slice c5 ((U ++ ([(⟨6, (iv.args.length : Int), 0, 0, iv.i.n⟩ : InsT)] : List InsT)) ++ ([(⟨37, 0, 0, 0, (a.locs.getD iv.i.a.toNat default).idx⟩ : InsT)] : List InsT)).length c9) rfl rfl rfl ?_
  refine ab 1 rfl ?_
  refine ah ⟨.inr rfl, _, rfl, c5, c9, (U ++ ([(⟨6, (iv.args.length : Int), 0, 0, iv.i.n⟩ : InsT)] : List InsT)) ++ ([(⟨37, 0, 0, 0, (a.locs.getD iv.i.a.toNat default).idx⟩ : InsT)] : List InsT), dl, _, (ay), (HS.only e3 (i := 2) rfl), rfl, es, (by rw [g1, show k2 = iv.args.length by omega]; first | exact sav1 (by assumption) | exact sav2 (by assumption) (by assumption) | exact sav0 (by assumption) (by omega))⟩
 have bz := a6
 try simp only [BS] at bz
 refine wR 1 [(1, .o (iI (a.locs.getD iv.i.a.toNat default).idx))] 54 57 [] [(54, (.bool ((a.locs.getD iv.i.a.toNat default).idx != 0)))] (vA (ql 3 1 (HS.hc Z (i := 4) rfl) rfl rfl) trivial) rfl fun _ => ?_
 refine ap 1 3 (v := ((a.locs.getD iv.i.a.toNat default).idx != 0)) rfl rfl rfl rfl (fun a7 => ?_) (fun a7 => ?_)
 ·
  have b0 := a7
  try simp only [BS] at b0
  refine aa ?_
  let d1 : Value := (.agg ⟨[(iI 10), (iI (a.locs.getD iv.i.a.toNat default).idx), (iI 0), (iI 0), (iI 0)]⟩)
  refine wRo 4 0 [(2, .o (iI (a.locs.getD iv.i.a.toNat default).idx))] 58 61 [] [(58, (.slice a3 (U ++ ([(⟨6, (iv.args.length : Int), 0, 0, iv.i.n⟩ : InsT)] : List InsT)).length a4)), (61, d1)] (vA (ql 3 1 (HS.hc Z (i := 4) rfl) rfl rfl) trivial) rfl fun _ => ?_
  refine aC (aP (α := InsT) (ps := [(0, d1)]) (cells := [(iI 10), (iI (a.locs.getD iv.i.a.toNat default).idx), (iI 0), (iI 0), (iI 0)]) ([(⟨10, (a.locs.getD iv.i.a.toNat default).idx, 0, 0, 0⟩ : InsT)] : List InsT) Z rfl rfl rfl (by kernel_rfl) ⟨[(iI 10), (iI (a.locs.getD iv.i.a.toNat default).idx), (iI 0), (iI 0), (iI 0)], [], rfl, ⟨rfl, by first | (dsimp only; omega) | omega, by first | (dsimp only; omega) | omega, by first | (dsimp only; omega) | omega, by first | (dsimp only; omega) | omega, by first | (dsimp only; omega) | omega⟩, rfl⟩ rfl) rfl rfl ?_
  rintro _ hv f9 ⟨hC, hG, rfl, et, (b9 : HS _ _ _ [_, _, _, _, _, f9] _), _⟩
  refine aC (aW (α := InsT) (q := 2) a8 b9 rfl rfl rfl (OS.sv et b9 (i := 5) rfl) rfl rfl rfl rfl rfl rfl rfl (by first | omega | (simp only [List.length_append, List.length_cons, List.length_nil]; omega))) rfl rfl ?_
  rintro _ hw dn ⟨c6, dd, rfl, ez, (e4 : HS _ _ _ [_, _, dn, _, _, _] _), _⟩
  refine wa (.slice c6 ((U ++ ([(⟨6, (iv.args.length : Int), 0, 0, iv.i.n⟩ : InsT)] : List InsT)) ++ ([(⟨10, (a.locs.getD iv.i.a.toNat default).idx, 0, 0, 0⟩ : InsT)] : List InsT)).length dd) rfl rfl rfl ?_
  refine ab 1 rfl ?_
  refine ah ⟨.inr rfl, _, rfl, c6, dd, (U ++ ([(⟨6, (iv.args.length : Int), 0, 0, iv.i.n⟩ : InsT)] : List InsT)) ++ ([(⟨10, (a.locs.getD iv.i.a.toNat default).idx, 0, 0, 0⟩ : InsT)] : List InsT), dn, _, (ay), (HS.only e4 (i := 2) rfl), rfl, ez, (by rw [g1, show k2 = iv.args.length by omega]; first | exact sav1 (by assumption) | exact sav2 (by assumption) (by assumption) | exact sav0 (by assumption) (by omega))⟩
 have b0 := a7
 try simp only [BS] at b0
 refine wR 1 [] 4 4 [64] [(4, (.slice a3 (U ++ ([(⟨6, (iv.args.length : Int), 0, 0, iv.i.n⟩ : InsT)] : List InsT)).length a4))] trivial rfl fun _ => ?_
 refine ah ⟨.inr rfl, _, rfl, a3, a4, U ++ ([(⟨6, (iv.args.length : Int), 0, 0, iv.i.n⟩ : InsT)] : List InsT), dk, _, (ay), (HS.only Z (i := 2) rfl), rfl, a8, (by rw [g1, show k2 = iv.args.length by omega]; first | exact sav1 (by assumption) | exact sav2 (by assumption) (by assumption) | exact sav0 (by assumption) (by omega))⟩
set_option maxHeartbeats 2000000 in
theorem roth_c (ex : FuncId) (i : InsT) {c9 : Option Addr} {d2 : Nat} {a4 : Option Addr} {bb : Nat} (a : AllT) {F : Fz} {H : Heap} {R : List Fp} (hs : HS (.of H []) F H [] R) (lJ : in64 i.op) (lK : in64 i.a) (lL : in64 i.b) (lM : in64 i.c) (lN : in64 i.n) (A : SR F (.slice a4 a.locs.length bb) a.locs) (lH : SR F (.slice c9 a.spi.length d2) a.spi) (lI : in64 a.slots) (hT : TB 37 tabC F) (hA : (aj i.op).ra = true ∨ (aj i.op).wa = true → 0 ≤ i.a ∧ i.a < (a.locs.length : Int)) (hB : (aj i.op).rb = true → 0 ≤ i.b ∧ i.b < (a.locs.length : Int)) (hC : (aj i.op).form = 4 → 0 ≤ i.c ∧ i.c < (a.locs.length : Int)) : C Tryd.prog 1 (KT 60 ex 37 tabC) 86 [(.agg ⟨[(iI i.op), (iI i.a), (iI i.b), (iI i.c), (iI i.n)]⟩), (.agg ⟨[(.slice a4 a.locs.length bb), (.slice c9 a.spi.length d2), (iI a.slots)]⟩)] H fun v H' => ∃ (ar : Option Addr) (kr : Nat) (r : List InsT) (p : Fp) (F' : Fz), Fz.le F F' ∧ HS (.of H []) F' H' [p] R ∧ v = .slice ar r.length kr ∧ OS F' (.slice ar r.length kr) r p ∧ r = if i.op = 10 then movV i a.locs else gv (aj i.op) i a.locs := by
 refine aJ Tryd.func86 rfl rfl ?_
 refine aq 1 rfl ?_
 refine aa ?_
 refine aC (be hs rfl rfl) rfl rfl ?_
 rintro _ H2 _ ⟨b1, rfl, (la : HS _ _ _ [[(b1, .cells [(iI i.op), (iI i.a), (iI i.b), (iI i.c), (iI i.n)] none false)]] _), _⟩
 refine aC (be la rfl rfl) rfl rfl ?_
 rintro _ H4 _ ⟨b3, rfl, (iz : HS _ _ _ [_, [(b3, .cells [(.slice a4 a.locs.length bb), (.slice c9 a.spi.length d2), (iI a.slots)] none false)]] _), _⟩
 refine wa (.slice none 0 0) rfl rfl rfl ?_
 refine ab 2 rfl ?_
 refine aa ?_
 refine wRo 2 0 [(1, .o (iI i.op))] 11 12 [] [(12, (iI i.op))] (vA (ql 3 0 (HS.hc iz (i := 0) rfl) rfl rfl) trivial) rfl fun _ => ?_
 refine az (am rfl rfl rfl) rfl rfl (m3.jH ex i.op (HS.call iz) (by first | (dsimp only; omega) | omega) hT) ?_
 rintro _ H6 ⟨x6, F6, ci, i1, rfl, k8, k9, rfl⟩
 replace i1 : HS _ _ _ [_, _] _ := HS.back iz rfl i1
 replace hT := hT.mono ci
 replace A := A.mono ci
 refine aC (aR i1 rfl) rfl rfl ?_
 rintro _ H8 _ ⟨b7, rfl, (lb : HS _ _ _ [_, _, [(b7, .cells [(.string ⟨⟨[]⟩⟩), (iI 0), (.bool false), (.bool false), (.bool false), (.bool false), (iI 0)] none false)]] _), _⟩
 refine aF (aw (q := 2) lb rfl rfl rfl rfl rfl rfl rfl rfl rfl) rfl ?_
 rintro _ H9 _ ⟨(lc : HS _ _ _ [_, _, [(b7, .cells [(.string ⟨⟨(aj i.op).name.b⟩⟩), (iI (aj i.op).form), (.bool (aj i.op).ra), (.bool (aj i.op).wa), (.bool (aj i.op).rb), (.bool (aj i.op).mt), (iI (aj i.op).words)] none false)]] _), _⟩
 refine ab 2 rfl ?_
 refine aa ?_
 refine aC (aR lc rfl) rfl rfl ?_
 rintro _ l2 _ ⟨ax, rfl, (kN : HS _ _ _ [_, _, _, [(ax, .cells [(.bool false), (iI 0)] none false)]] _), _⟩
 refine aC (aR kN rfl) rfl rfl ?_
 rintro _ l3 _ ⟨bl, rfl, (kO : HS _ _ _ [_, _, _, _, [(bl, .cells [(.bool false), (iI 0)] none false)]] _), _⟩
 refine aC (aR kO rfl) rfl rfl ?_
 rintro _ l4 _ ⟨a3, rfl, (iv : HS _ _ _ [_, _, _, _, _, [(a3, .cells [(.bool false), (iI 0)] none false)]] _), _⟩
 refine ab 2 rfl ?_
 refine wR 2 [] 1 0 [9] [(9, (.slice none 0 0))] trivial rfl fun _ => ?_
 refine aa ?_
 refine wRo 3 0 [(1, .o (iI i.op))] 14 16 [] [(16, (.agg ⟨[(iI i.op), (iI 0), (iI 0), (iI 0), (iI 0)]⟩))] (vA (ql 3 0 (HS.hc iv (i := 0) rfl) rfl rfl) trivial) rfl fun _ => ?_
 refine aC (aR iv rfl) rfl rfl ?_
 rintro _ l5 _ ⟨z, rfl, (kP : HS _ _ _ [_, _, _, _, _, _, [(z, .cells [(iI 0), (iI 0), (iI 0), (iI 0), (iI 0)] none false)]] _), _⟩
 refine aF (aw (q := 6) kP rfl rfl rfl rfl rfl rfl rfl rfl rfl) rfl ?_
 rintro _ l6 _ ⟨(co : HS _ _ _ [_, _, _, _, _, _, [(z, .cells [(iI i.op), (iI 0), (iI 0), (iI 0), (iI 0)] none false)]] _), _⟩
 refine ab 3 rfl ?_
 refine wR 1 [(1, .o (iI (aj i.op).form)), (5, .o (iI (aj i.op).form))] 17 24 [] [(24, (.bool (((aj i.op).form == 5) || ((aj i.op).form == 7))))] (vA (ql 3 1 (HS.hc co (i := 2) rfl) rfl rfl) (vA (fun (g1 : ((aj i.op).form == 5) = false) => (ql 3 1 (HS.hc co (i := 2) rfl) rfl rfl)) trivial)) rfl fun _ => ?_
 let c4 : Fp := [(b1, .cells [(iI i.op), (iI i.a), (iI i.b), (iI i.c), (iI i.n)] none false)]
 let c5 : Fp := [(b3, .cells [(.slice a4 a.locs.length bb), (.slice c9 a.spi.length d2), (iI a.slots)] none false)]
 let c6 : Fp := [(b7, .cells [(.string ⟨⟨(aj i.op).name.b⟩⟩), (iI (aj i.op).form), (.bool (aj i.op).ra), (.bool (aj i.op).wa), (.bool (aj i.op).rb), (.bool (aj i.op).mt), (iI (aj i.op).words)] none false)]
 let kG : Fp := [(bl, .cells [(.bool false), (iI 0)] none false)]
 let ez : Fp := [(a3, .cells [(.bool false), (iI 0)] none false)]
 refine aY (fun f H' => ∃ (on : Int) (F' : Fz), Fz.le F6 F' ∧ HS (Base.of H []) F' H' [c4, c5, c6, [(ax, .cells [(.bool false), (iI 0)] none false)], kG, ez, [(z, .cells [(iI i.op), (iI 0), (iI 0), (iI 0), (iI on)] none false)]] R ∧ aH f [(2, (.pointer (some ⟨b1, 0, none⟩))), (3, (.pointer (some ⟨b3, 0, none⟩))), (4, (.slice none 0 0)), (5, (.pointer (some ⟨b7, 0, none⟩))), (6, (.pointer (some ⟨ax, 0, none⟩))), (7, (.pointer (some ⟨bl, 0, none⟩))), (8, (.pointer (some ⟨a3, 0, none⟩))), (9, (.slice none 0 0)), (10, (.pointer (some ⟨z, 0, none⟩)))] ∧ (on = oN (aj i.op) i) ∧ (in64 on)) (fun jc => ?_) ?_
 ·
  refine ap 0 0 (v := (((aj i.op).form == 5) || ((aj i.op).form == 7))) rfl rfl rfl rfl (fun e4 => ?_) (fun e4 => ?_)
  ·
   have hz := e4
   try simp only [BS] at hz
   refine aa ?_
   refine wRo 3 0 [(1, .o (iI i.n))] 25 27 [] [(26, (iI i.n)), (27, (.pointer (some ⟨z, 4, none⟩)))] (vA (ql 2 4 (HS.hc co (i := 0) rfl) rfl rfl) trivial) rfl fun _ => ?_
   refine aF (aw (q := 6) co rfl rfl rfl rfl rfl rfl rfl rfl rfl) rfl ?_
   rintro _ l8 _ ⟨(kQ : HS _ _ _ [_, _, _, _, _, _, [(z, .cells [(iI i.op), (iI 0), (iI 0), (iI 0), (iI i.n)] none false)]] _), _⟩
   refine ab 0 rfl ?_
   exact jc _ _ ⟨i.n, _, fR, kQ, (agC rfl (agC rfl (agC rfl (agC rfl (agC rfl (agC rfl (agC rfl (agC rfl (agC rfl agN))))))))), (by unfold oN; split <;> first | rfl | omega), (by first | assumption | omega | (simp at *; omega))⟩
  have hz := e4
  try simp only [BS] at hz
  exact jc _ _ ⟨0, _, fR, co, (agC rfl (agC rfl (agC rfl (agC rfl (agC rfl (agC rfl (agC rfl (agC rfl (agC rfl agN))))))))), (by unfold oN; split <;> first | rfl | omega), (by first | assumption | omega | (simp at *; omega))⟩
 skip
 rintro mL l7 ⟨on, kZ, a5, g3, h6, hn, rn⟩
 refine au _ h6 (fun _ => ?_)
 clear h6
 replace hT := hT.mono a5
 replace A := A.mono a5
 refine aq 3 rfl ?_
 refine wR 1 [(1, .o (.bool (aj i.op).ra)), (4, .o (.bool (aj i.op).wa))] 28 33 [] [(33, (.bool ((aj i.op).ra || (aj i.op).wa)))] (vA (ql 4 2 (HS.hc g3 (i := 2) rfl) rfl rfl) (vA (fun (g1 : (aj i.op).ra = false) => (ql 4 3 (HS.hc g3 (i := 2) rfl) rfl rfl)) trivial)) rfl fun _ => ?_
 have a0 := HS.snoc g3
 have a0 : HS _ _ _ [_, _, _, _, _, _, [(z, .cells [(iI i.op), (iI 0), (iI 0), (iI 0), (iI on)] none false)], []] _ := a0
 refine aY (fun f H' => ∃ (o2 : List InsT) (oa : Int) (tb : Bool) (tx : Int) (U : Option Addr) (Z : Nat) (J : Fp) (F' : Fz), Fz.le kZ F' ∧ HS (Base.of H []) F' H' [c4, c5, c6, [(ax, .cells [(.bool tb), (iI tx)] none false)], kG, ez, [(z, .cells [(iI i.op), (iI oa), (iI 0), (iI 0), (iI on)] none false)], J] R ∧ OS F' (.slice U o2.length Z) o2 J ∧ aH f [(2, (.pointer (some ⟨b1, 0, none⟩))), (3, (.pointer (some ⟨b3, 0, none⟩))), (4, (.slice none 0 0)), (5, (.pointer (some ⟨b7, 0, none⟩))), (6, (.pointer (some ⟨ax, 0, none⟩))), (7, (.pointer (some ⟨bl, 0, none⟩))), (8, (.pointer (some ⟨a3, 0, none⟩))), (9, (.slice U o2.length Z)), (10, (.pointer (some ⟨z, 0, none⟩)))] ∧ (o2 = aV (aj i.op) i a.locs) ∧ (oa = oA (aj i.op) i a.locs) ∧ ((aj i.op).ra = true ∨ (aj i.op).wa = true → tb = (atV a.locs i.a).inS ∧ tx = (atV a.locs i.a).idx) ∧ (in64 oa) ∧ (in64 tx)) (fun hf => ?_) ?_
 ·
  refine ap 1 0 (v := ((aj i.op).ra || (aj i.op).wa)) rfl rfl rfl rfl (fun e5 => ?_) (fun e5 => ?_)
  ·
   have hD := e5
   try simp only [BS] at hD
   have mU := hA (by assumption)
   refine aa ?_
   obtain ⟨lD, i3⟩ := Sv.view (SR.sv A a0)
   have lj := LocT.fx (i3 i.a.toNat)
   let b6 : Value := (.agg ⟨[(.bool (a.locs.getD i.a.toNat default).inS), (iI (a.locs.getD i.a.toNat default).idx)]⟩)
   refine wRo 6 0 [(1, .o (.slice a4 a.locs.length bb)), (3, .o (iI i.a)), (5, .o b6)] 34 39 [] [(39, b6)] (vA (ql 37 0 (HS.hc a0 (i := 1) rfl) rfl rfl) (vA (ql 3 1 (HS.hc a0 (i := 0) rfl) rfl rfl) (vA (Sv.ix (j := i.a) (SR.sv A a0) (by first | (dsimp only; omega) | omega) (by first | (dsimp only; omega) | omega)) (vA (qn 57 0 2 (LocT.vw (i3 i.a.toNat) (by first | (dsimp only; omega) | omega)) rfl rfl rfl rfl) trivial)))) rfl fun _ => ?_
   refine aF (aw (q := 3) a0 rfl rfl rfl rfl rfl rfl rfl rfl rfl) rfl ?_
   rintro _ mk _ ⟨(g4 : HS _ _ _ [_, _, _, [(ax, .cells [(.bool (a.locs.getD i.a.toNat default).inS), (iI (a.locs.getD i.a.toNat default).idx)] none false)], _, _, _, _] _), _⟩
   refine ab 2 rfl ?_
   refine aa ?_
   refine wRo 1 0 [(0, .o b6)] 40 40 [] [(40, b6)] (vA (qn 57 0 2 (HS.hc g4 (i := 3) rfl) rfl rfl rfl rfl) trivial) rfl fun _ => ?_
   refine az (am rfl rfl rfl) rfl rfl (ig ex (a.locs.getD i.a.toNat default) (5) (HS.call g4) (by first | (dsimp only; omega) | omega) (by first | (dsimp only; omega) | omega) hT) ?_
   rintro _ mm ⟨mX, lV, f9, g5, rfl, rfl⟩
   replace g5 : HS _ _ _ [_, _, _, _, _, _, _, _] _ := HS.back g4 rfl g5
   replace hT := hT.mono f9
   refine wRo 1 2 [] 42 42 [] [(42, (.pointer (some ⟨z, 1, none⟩)))] trivial rfl fun _ => ?_
   refine aF (aw (q := 6) g5 rfl rfl rfl rfl rfl rfl rfl rfl rfl) rfl ?_
   rintro _ mn _ ⟨(b0 : HS _ _ _ [_, _, _, _, _, _, [(z, .cells [(iI i.op), (iI (fS (a.locs.getD i.a.toNat default).inS (a.locs.getD i.a.toNat default).idx (5 : Int))), (iI 0), (iI 0), (iI on)] none false)], _] _), _⟩
   refine ab 2 rfl ?_
   refine wR 1 [(1, .o (.bool (aj i.op).ra)), (4, .o (.bool (a.locs.getD i.a.toNat default).inS))] 43 48 [] [(48, (.bool ((aj i.op).ra && (a.locs.getD i.a.toNat default).inS)))] (vA (ql 4 2 (HS.hc b0 (i := 2) rfl) rfl rfl) (vA (fun (g1 : (aj i.op).ra = true) => (ql 4 0 (HS.hc b0 (i := 3) rfl) rfl rfl)) trivial)) rfl fun _ => ?_
   refine ap 0 0 (v := ((aj i.op).ra && (a.locs.getD i.a.toNat default).inS)) rfl rfl rfl rfl (fun e6 => ?_) (fun e6 => ?_)
   ·
    have hE := e6
    try simp only [BS] at hE
    have mS := iC (to := 5) (b := (a.locs.getD i.a.toNat default).inS) (x := (a.locs.getD i.a.toNat default).idx)
    refine aa ?_
    refine wRo 2 0 [(1, .o b6)] 49 50 [] [(49, (.slice none 0 0)), (50, b6)] (vA (qn 57 0 2 (HS.hc b0 (i := 3) rfl) rfl rfl rfl rfl) trivial) rfl fun _ => ?_
    refine az (am rfl rfl rfl) rfl rfl (hR ex (5) (a.locs.getD i.a.toNat default) (HS.call b0) (by first | (dsimp only; omega) | omega) (by first | (dsimp only; omega) | omega) hT) ?_
    rintro _ mp ⟨lA, lQ, mY, ld, k3, kH, ds, rfl, kn, rfl⟩
    replace ds : HS _ _ _ [_, _, _, _, _, _, _, _, ld] _ := HS.back b0 rfl ds
    refine aC (aW (α := InsT) (q := 7) (OS.nil : OS _ (.slice none 0 0) ([] : List InsT) []) ds rfl rfl rfl (OS.sv kn ds (i := 8) rfl) rfl rfl rfl rfl rfl rfl rfl (by first | omega | (simp only [List.length_append, List.length_cons, List.length_nil]; omega))) rfl rfl ?_
    rintro _ mq kg ⟨hv, j1, rfl, g0, (kR : HS _ _ _ [_, _, _, _, _, _, _, kg, _] _), _⟩
    have g0 : OS k3 (.slice hv (eS (5 : Int) (a.locs.getD i.a.toNat default).inS (a.locs.getD i.a.toNat default).idx).length j1) (eS (5 : Int) (a.locs.getD i.a.toNat default).inS (a.locs.getD i.a.toNat default).idx) kg := g0
    refine wa (.slice hv (eS (5 : Int) (a.locs.getD i.a.toNat default).inS (a.locs.getD i.a.toNat default).idx).length j1) rfl rfl rfl ?_
    refine ab 0 rfl ?_
    exact hf _ _ ⟨(eS (5 : Int) (a.locs.getD i.a.toNat default).inS (a.locs.getD i.a.toNat default).idx), fS (a.locs.getD i.a.toNat default).inS (a.locs.getD i.a.toNat default).idx (5 : Int), (a.locs.getD i.a.toNat default).inS, (a.locs.getD i.a.toNat default).idx, hv, j1, kg, _, (fT (f9) kH), (HS.sub kR (List.sublist_append_left _ _)), g0, (agC rfl (agC rfl (agC rfl (agC rfl (agC rfl (agC rfl (agC rfl (agC rfl (agC rfl agN))))))))), (by unfold aV; (repeat' split) <;> first | rfl | omega | simp_all [eS]), (by unfold oA; (repeat' split) <;> first | rfl | omega | simp_all), (by first | exact fun _ => ⟨rfl, rfl⟩ | exact fun h => absurd h (by simp_all)), (by first | omega | exact ey (by omega) (by omega)), (by first | assumption | omega | (simp at *; omega))⟩
   have hE := e6
   try simp only [BS] at hE
   exact hf _ _ ⟨([] : List InsT), fS (a.locs.getD i.a.toNat default).inS (a.locs.getD i.a.toNat default).idx (5 : Int), (a.locs.getD i.a.toNat default).inS, (a.locs.getD i.a.toNat default).idx, none, 0, [], _, (f9), b0, (OS.nil : OS _ (.slice none 0 0) ([] : List InsT) []), (agC rfl (agC rfl (agC rfl (agC rfl (agC rfl (agC rfl (agC rfl (agC rfl (agC rfl agN))))))))), (by unfold aV; (repeat' split) <;> first | rfl | omega | simp_all [eS]), (by unfold oA; (repeat' split) <;> first | rfl | omega | simp_all), (by first | exact fun _ => ⟨rfl, rfl⟩ | exact fun h => absurd h (by simp_all)), (by first | omega | exact ey (by omega) (by omega)), (by first | assumption | omega | (simp at *; omega))⟩
  have hD := e5
  try simp only [BS] at hD
  exact hf _ _ ⟨([] : List InsT), 0, false, 0, none, 0, [], _, fR, a0, (OS.nil : OS _ (.slice none 0 0) ([] : List InsT) []), (agC rfl (agC rfl (agC rfl (agC rfl (agC rfl (agC rfl (agC rfl (agC rfl (agC rfl agN))))))))), (by unfold aV; (repeat' split) <;> first | rfl | omega | simp_all [eS]), (by unfold oA; (repeat' split) <;> first | rfl | omega | simp_all), (by first | exact fun _ => ⟨rfl, rfl⟩ | exact fun h => absurd h (by simp_all)), (by first | omega | exact ey (by omega) (by omega)), (by first | assumption | omega | (simp at *; omega))⟩
 skip
 rintro mM l9 ⟨o2, oa, tb, tx, U, Z, J, k0, a6, a7, T, h7, h2, ha, ht, ra, rx⟩
 refine au _ h7 (fun _ => ?_)
 clear h7
 replace hT := hT.mono a6
 replace A := A.mono a6
 have n2 : o2.length ≤ 1 := by rw [h2]; exact lenA
 refine aq 3 rfl ?_
 refine wR 1 [(1, .o (.bool (aj i.op).rb))] 53 54 [] [(54, (.bool (aj i.op).rb))] (vA (ql 4 4 (HS.hc a7 (i := 2) rfl) rfl rfl) trivial) rfl fun _ => ?_
 let N : Fp := [(ax, .cells [(.bool tb), (iI tx)] none false)]
 refine aY (fun f H' => ∃ (ob : Int) (ub : Bool) (ux : Int) (F' : Fz), Fz.le k0 F' ∧ HS (Base.of H []) F' H' [c4, c5, c6, N, [(bl, .cells [(.bool ub), (iI ux)] none false)], ez, [(z, .cells [(iI i.op), (iI oa), (iI ob), (iI 0), (iI on)] none false)], J] R ∧ aH f [(2, (.pointer (some ⟨b1, 0, none⟩))), (3, (.pointer (some ⟨b3, 0, none⟩))), (4, (.slice none 0 0)), (5, (.pointer (some ⟨b7, 0, none⟩))), (6, (.pointer (some ⟨ax, 0, none⟩))), (7, (.pointer (some ⟨bl, 0, none⟩))), (8, (.pointer (some ⟨a3, 0, none⟩))), (9, (.slice U o2.length Z)), (10, (.pointer (some ⟨z, 0, none⟩)))] ∧ (ob = oB (aj i.op) i a.locs) ∧ ((aj i.op).rb = true → ub = (atV a.locs i.b).inS ∧ ux = (atV a.locs i.b).idx) ∧ (in64 ob) ∧ (in64 ux)) (fun jq => ?_) ?_
 ·
  refine ap 1 0 (v := (aj i.op).rb) rfl rfl rfl rfl (fun fd => ?_) (fun fd => ?_)
  ·
   have hF := fd
   try simp only [BS] at hF
   have mV := hB (by assumption)
   refine aa ?_
   obtain ⟨lE, ja⟩ := Sv.view (SR.sv A a7)
   have ll := LocT.fx (ja i.b.toNat)
   let d3 : Value := (.agg ⟨[(.bool (a.locs.getD i.b.toNat default).inS), (iI (a.locs.getD i.b.toNat default).idx)]⟩)
   refine wRo 6 0 [(1, .o (.slice a4 a.locs.length bb)), (3, .o (iI i.b)), (5, .o d3)] 55 60 [] [(60, d3)] (vA (ql 37 0 (HS.hc a7 (i := 1) rfl) rfl rfl) (vA (ql 3 2 (HS.hc a7 (i := 0) rfl) rfl rfl) (vA (Sv.ix (j := i.b) (SR.sv A a7) (by first | (dsimp only; omega) | omega) (by first | (dsimp only; omega) | omega)) (vA (qn 57 0 2 (LocT.vw (ja i.b.toNat) (by first | (dsimp only; omega) | omega)) rfl rfl rfl rfl) trivial)))) rfl fun _ => ?_
   refine aF (aw (q := 4) a7 rfl rfl rfl rfl rfl rfl rfl rfl rfl) rfl ?_
   rintro _ ms _ ⟨(g6 : HS _ _ _ [_, _, _, N, [(bl, .cells [(.bool (a.locs.getD i.b.toNat default).inS), (iI (a.locs.getD i.b.toNat default).idx)] none false)], _, [(z, .cells [(iI i.op), (iI oa), (iI 0), (iI 0), (iI on)] none false)], J] _), _⟩
   refine ab 1 rfl ?_
   refine aa ?_
   refine wRo 1 0 [(0, .o d3)] 61 61 [] [(61, d3)] (vA (qn 57 0 2 (HS.hc g6 (i := 4) rfl) rfl rfl rfl rfl) trivial) rfl fun _ => ?_
   refine az (am rfl rfl rfl) rfl rfl (ig ex (a.locs.getD i.b.toNat default) (6) (HS.call g6) (by first | (dsimp only; omega) | omega) (by first | (dsimp only; omega) | omega) hT) ?_
   rintro _ mu ⟨mZ, lW, kI, g7, rfl, rfl⟩
   replace g7 : HS _ _ _ [_, _, _, _, _, _, _, _] _ := HS.back g6 rfl g7
   refine wRo 1 2 [] 63 63 [] [(63, (.pointer (some ⟨z, 2, none⟩)))] trivial rfl fun _ => ?_
   refine aF (aw (q := 6) g7 rfl rfl rfl rfl rfl rfl rfl rfl rfl) rfl ?_
   rintro _ mw _ ⟨(kS : HS _ _ _ [_, _, _, _, _, _, [(z, .cells [(iI i.op), (iI oa), (iI (fS (a.locs.getD i.b.toNat default).inS (a.locs.getD i.b.toNat default).idx (6 : Int))), (iI 0), (iI on)] none false)], _] _), _⟩
   refine ab 0 rfl ?_
   exact jq _ _ ⟨fS (a.locs.getD i.b.toNat default).inS (a.locs.getD i.b.toNat default).idx (6 : Int), (a.locs.getD i.b.toNat default).inS, (a.locs.getD i.b.toNat default).idx, _, (kI), kS, (agC rfl (agC rfl (agC rfl (agC rfl (agC rfl (agC rfl (agC rfl (agC rfl (agC rfl agN))))))))), (by unfold oB; (repeat' split) <;> first | rfl | omega | simp_all), (by first | exact fun _ => ⟨rfl, rfl⟩ | exact fun h => absurd h (by simp_all)), (by first | omega | exact ey (by omega) (by omega)), (by first | assumption | omega | (simp at *; omega))⟩
  have hF := fd
  try simp only [BS] at hF
  exact jq _ _ ⟨0, false, 0, _, fR, a7, (agC rfl (agC rfl (agC rfl (agC rfl (agC rfl (agC rfl (agC rfl (agC rfl (agC rfl agN))))))))), (by unfold oB; (repeat' split) <;> first | rfl | omega | simp_all), (by first | exact fun _ => ⟨rfl, rfl⟩ | exact fun h => absurd h (by simp_all)), (by first | omega | exact ey (by omega) (by omega)), (by first | assumption | omega | (simp at *; omega))⟩
 skip
 rintro mN mr ⟨ob, ub, ux, k4, ay, E, h8, hb, hu, rb, rux⟩
 refine au _ h8 (fun _ => ?_)
 clear h8
 replace hT := hT.mono ay
 replace A := A.mono ay
 replace T := T.mono ay
 refine aq 3 rfl ?_
 refine wR 1 [(1, .o (iI i.op))] 64 66 [] [(66, (.bool (i.op == 10)))] (vA (ql 3 0 (HS.hc E (i := 0) rfl) rfl rfl) trivial) rfl fun _ => ?_
 let ag : Fp := [(bl, .cells [(.bool ub), (iI ux)] none false)]
 let b8 : Fp := [(z, .cells [(iI i.op), (iI oa), (iI ob), (iI 0), (iI on)] none false)]
 refine aY (fun f H' => ∃  (F' : Fz), Fz.le k4 F' ∧ HS (Base.of H []) F' H' [c4, c5, c6, N, ag, ez, b8, J] R ∧ aH f [(2, (.pointer (some ⟨b1, 0, none⟩))), (3, (.pointer (some ⟨b3, 0, none⟩))), (5, (.pointer (some ⟨b7, 0, none⟩))), (6, (.pointer (some ⟨ax, 0, none⟩))), (7, (.pointer (some ⟨bl, 0, none⟩))), (8, (.pointer (some ⟨a3, 0, none⟩))), (9, (.slice U o2.length Z)), (10, (.pointer (some ⟨z, 0, none⟩)))] ∧ (i.op = 10 → movV i a.locs = gv (aj i.op) i a.locs)) (fun jw => ?_) ?_
 ·
  refine ap 2 0 (v := (i.op == 10)) rfl rfl rfl rfl (fun fi => ?_) (fun fi => ?_)
  ·
   have hl := fi
   try simp only [BS] at hl
   have et := hl
   have hla := ht (by rw [et]; exact .inr rfl)
   have hlb := hu (by rw [et]; rfl)
   refine wR 1 [(0, .o (.agg ⟨[(.bool tb), (iI tx)]⟩)), (1, .o (.agg ⟨[(.bool ub), (iI ux)]⟩)), (2, .o (.bool ((tb == ub) && ((tx == ux) && true))))] 67 70 [] [(67, (.bool ((tb == ub) && ((tx == ux) && true))))] (vA (qn 57 0 2 (HS.hc E (i := 3) rfl) rfl rfl rfl rfl) (vA (qn 57 0 2 (HS.hc E (i := 4) rfl) rfl rfl rfl rfl) (vA (agEq (P := Tryd.prog) (t := 57) (xs := [(.bool tb), (iI tx)]) (ys := [(.bool ub), (iI ux)]) (bs := [(tb == ub), (tx == ux)]) rfl rfl rfl (by kernel_rfl) (by kernel_rfl) (.cons ⟨by decide, _, _, rfl, rfl, eqB rfl⟩ (.cons ⟨by decide, _, _, rfl, rfl, eqI rfl⟩ .nil))) trivial))) rfl fun _ => ?_
   refine ap 1 1 (v := ((tb == ub) && ((tx == ux) && true))) rfl rfl rfl rfl (fun f0 => ?_) (fun f0 => ?_)
   ·
    have hG := f0
    try simp only [BS] at hG
    refine wR 1 [] 4 4 [] [(4, (.slice none 0 0))] trivial rfl fun _ => ?_
    refine ah ⟨.inr rfl, _, rfl, none, 0, ([] : List InsT), [], _, (fT (fT (fT (ci) a5) a6) ay), (HS.cons (HS.forget E)), rfl, (OS.nil : OS _ _ _ []), (by rw [if_pos et]; exact mov1 (loc_ext (by simp_all)))⟩
   have hG := f0
   try simp only [BS] at hG
   have it : ¬ ((atV a.locs i.a).inS = (atV a.locs i.b).inS ∧ (atV a.locs i.a).idx = (atV a.locs i.b).idx) := fun h => by simp_all
   refine wR 1 [(1, .o (.bool ub)), (4, .o (.bool tb))] 71 78 [] [(71, (.bool (ub && (!tb))))] (vA (ql 4 0 (HS.hc E (i := 4) rfl) rfl rfl) (vA (fun (g1 : ub = true) => (ql 4 0 (HS.hc E (i := 3) rfl) rfl rfl)) trivial)) rfl fun _ => ?_
   refine ap 1 1 (v := (ub && (!tb))) rfl rfl rfl rfl (fun f1 => ?_) (fun f1 => ?_)
   ·
    have hH := f1
    try simp only [BS] at hH
    refine aa ?_
    refine wRo 3 0 [(1, .o (iI tx)), (2, .o (.agg ⟨[(.bool ub), (iI ux)]⟩))] 79 81 [] [(80, (iI tx)), (81, (.agg ⟨[(.bool ub), (iI ux)]⟩))] (vA (ql 3 1 (HS.hc E (i := 3) rfl) rfl rfl) (vA (qn 57 0 2 (HS.hc E (i := 4) rfl) rfl rfl rfl rfl) trivial)) rfl fun _ => ?_
    refine az (am rfl rfl rfl) rfl rfl (hR ex tx (⟨ub, ux⟩ : LocT) (HS.call E) (by first | (dsimp only; omega) | omega) (by first | (dsimp only; omega) | omega) hT) ?_
    rintro _ my ⟨hw, j2, m0, kC, lX, kJ, g8, rfl, ko, rfl⟩
    replace g8 : HS _ _ _ [_, _, _, N, ag, _, b8, J, kC] _ := HS.back E rfl g8
    refine wa (.slice hw (eS tx (⟨ub, ux⟩ : LocT).inS (⟨ub, ux⟩ : LocT).idx).length j2) rfl rfl rfl ?_
    refine ab 1 rfl ?_
    refine ah ⟨.inr rfl, _, rfl, hw, j2, eS tx (⟨ub, ux⟩ : LocT).inS (⟨ub, ux⟩ : LocT).idx, kC, _, (fT (fT (fT (fT (ci) a5) a6) ay) kJ), (HS.only g8 (i := 8) rfl), rfl, ko, (by rw [if_pos et]; rw [← mov2 it (by simp_all)]; unfold eS; simp_all)⟩
   have hH := f1
   try simp only [BS] at hH
   refine wR 1 [(1, .o (.bool tb)), (4, .o (.bool ub))] 83 90 [] [(83, (.bool (tb && (!ub))))] (vA (ql 4 0 (HS.hc E (i := 3) rfl) rfl rfl) (vA (fun (g1 : tb = true) => (ql 4 0 (HS.hc E (i := 4) rfl) rfl rfl)) trivial)) rfl fun _ => ?_
   refine ap 1 1 (v := (tb && (!ub))) rfl rfl rfl rfl (fun f2 => ?_) (fun f2 => ?_)
   ·
    have hI := f2
    try simp only [BS] at hI
    refine aa ?_
    let ki : Value := (.agg ⟨[(iI 37), (iI ux), (iI 0), (iI 0), (iI tx)]⟩)
    refine wRo 5 0 [(1, .o (iI ux)), (3, .o (iI tx))] 91 95 [] [(95, ki)] (vA (ql 3 1 (HS.hc E (i := 4) rfl) rfl rfl) (vA (ql 3 1 (HS.hc E (i := 3) rfl) rfl rfl) trivial)) rfl fun _ => ?_
    refine aC (aP (α := InsT) (ps := [(0, ki)]) (cells := [(iI 37), (iI ux), (iI 0), (iI 0), (iI tx)]) ([(⟨37, ux, 0, 0, tx⟩ : InsT)] : List InsT) E rfl rfl rfl (by kernel_rfl) ⟨[(iI 37), (iI ux), (iI 0), (iI 0), (iI tx)], [], rfl, ⟨rfl, by first | (dsimp only; omega) | omega, by first | (dsimp only; omega) | omega, by first | (dsimp only; omega) | omega, by first | (dsimp only; omega) | omega, by first | (dsimp only; omega) | omega⟩, rfl⟩ rfl) rfl rfl ?_
    rintro _ mz kD ⟨kw, kz, rfl, kK, (kT : HS _ _ _ [_, _, _, N, ag, _, b8, J, kD] _), _⟩
    refine wa (.slice kw ([(⟨37, ux, 0, 0, tx⟩ : InsT)] : List InsT).length kz) rfl rfl rfl ?_
    refine ab 1 rfl ?_
    refine ah ⟨.inr rfl, _, rfl, kw, kz, ([(⟨37, ux, 0, 0, tx⟩ : InsT)] : List InsT), kD, _, (fT (fT (fT (ci) a5) a6) ay), (HS.only kT (i := 8) rfl), rfl, kK, (by rw [if_pos et, ← mov3 (by simp_all)]; simp_all)⟩
   have hI := f2
   try simp only [BS] at hI
   exact jw _ _ ⟨_, fR, E, (agC rfl (agC rfl (agC rfl (agC rfl (agC rfl (agC rfl (agC rfl (agC rfl agN)))))))), (by first | exact fun h => absurd h (by assumption) | exact fun _ => (mov4 it (by simp_all) (by simp_all)).symm)⟩
  have hl := fi
  try simp only [BS] at hl
  exact jw _ _ ⟨_, fR, E, (agC rfl (agC rfl (agC rfl (agC rfl (agC rfl (agC rfl (agC rfl (agC rfl agN)))))))), (by first | exact fun h => absurd h (by assumption) | exact fun _ => (mov4 it (by simp_all) (by simp_all)).symm)⟩
 skip
 rintro mO mx ⟨k5, ch, b2, ib, hm⟩
 refine au _ ib (fun _ => ?_)
 clear ib
 replace hT := hT.mono ch
 replace A := A.mono ch
 replace T := T.mono ch
 refine aq 3 rfl ?_
 refine wR 1 [(1, .o (.bool (aj i.op).rb)), (4, .o (.bool ub))] 97 102 [] [(102, (.bool ((aj i.op).rb && ub)))] (vA (ql 4 4 (HS.hc b2 (i := 2) rfl) rfl rfl) (vA (fun (g1 : (aj i.op).rb = true) => (ql 4 0 (HS.hc b2 (i := 4) rfl) rfl rfl)) trivial)) rfl fun _ => ?_
 refine aY (fun f H' => ∃ (o3 : List InsT) (al : Option Addr) (an : Nat) (av : Fp) (F' : Fz), Fz.le k5 F' ∧ HS (Base.of H []) F' H' [c4, c5, c6, N, ag, ez, b8, av] R ∧ OS F' (.slice al o3.length an) o3 av ∧ aH f [(2, (.pointer (some ⟨b1, 0, none⟩))), (3, (.pointer (some ⟨b3, 0, none⟩))), (5, (.pointer (some ⟨b7, 0, none⟩))), (6, (.pointer (some ⟨ax, 0, none⟩))), (8, (.pointer (some ⟨a3, 0, none⟩))), (9, (.slice al o3.length an)), (10, (.pointer (some ⟨z, 0, none⟩)))] ∧ (o3 = o2 ++ bV (aj i.op) i a.locs)) (fun j0 => ?_) ?_
 ·
  refine ap 0 0 (v := ((aj i.op).rb && ub)) rfl rfl rfl rfl (fun f3 => ?_) (fun f3 => ?_)
  ·
   have hK := f3
   try simp only [BS] at hK
   have hlb := hu (by simp_all)
   have mT := iC (to := 6) (b := ub) (x := ux)
   refine aa ?_
   refine wRo 2 0 [(1, .o (.agg ⟨[(.bool ub), (iI ux)]⟩))] 103 104 [] [(103, (.slice U o2.length Z)), (104, (.agg ⟨[(.bool ub), (iI ux)]⟩))] (vA (qn 57 0 2 (HS.hc b2 (i := 4) rfl) rfl rfl rfl rfl) trivial) rfl fun _ => ?_
   refine az (am rfl rfl rfl) rfl rfl (hR ex (6) (⟨ub, ux⟩ : LocT) (HS.call b2) (by first | (dsimp only; omega) | omega) (by first | (dsimp only; omega) | omega) hT) ?_
   rintro _ mB ⟨lB, lR, m7, lf, lY, hY, dt, rfl, kp, rfl⟩
   replace dt : HS _ _ _ [_, _, _, N, ag, _, b8, J, lf] _ := HS.back b2 rfl dt
   replace T := T.mono hY
   refine aC (aW (α := InsT) (q := 7) T dt rfl rfl rfl (OS.sv kp dt (i := 8) rfl) rfl rfl rfl rfl rfl rfl rfl (by first | omega | (simp only [List.length_append, List.length_cons, List.length_nil]; omega))) rfl rfl ?_
   rintro _ mC kE ⟨kx, kA, rfl, kL, (kU : HS _ _ _ [_, _, _, _, _, _, _, kE, _] _), _⟩
   refine wa (.slice kx (o2 ++ (eS (6 : Int) (⟨ub, ux⟩ : LocT).inS (⟨ub, ux⟩ : LocT).idx)).length kA) rfl rfl rfl ?_
   refine ab 0 rfl ?_
   exact j0 _ _ ⟨o2 ++ (eS (6 : Int) (⟨ub, ux⟩ : LocT).inS (⟨ub, ux⟩ : LocT).idx), kx, kA, kE, _, (hY), (HS.sub kU (List.sublist_append_left _ _)), kL, (agC rfl (agC rfl (agC rfl (agC rfl (agC rfl (agC rfl (agC rfl agN))))))), (by unfold bV; (repeat' split) <;> first | rfl | omega | simp_all [eS])⟩
  have hK := f3
  try simp only [BS] at hK
  exact j0 _ _ ⟨o2, U, Z, J, _, fR, b2, T, (agC rfl (agC rfl (agC rfl (agC rfl (agC rfl (agC rfl (agC rfl agN))))))), (by unfold bV; (repeat' split) <;> first | rfl | omega | simp_all [eS])⟩
 skip
 rintro mP mA ⟨o3, al, an, av, k6, dl, a8, V, ih, h3⟩
 refine au _ ih (fun _ => ?_)
 clear ih
 replace hT := hT.mono dl
 replace A := A.mono dl
 have n3 : o3.length ≤ 2 := by rw [h3, List.length_append]; exact Nat.add_le_add n2 lenB
 refine aq 3 rfl ?_
 refine wR 1 [(1, .o (iI (aj i.op).form))] 107 109 [] [(109, (.bool ((aj i.op).form == 4)))] (vA (ql 3 1 (HS.hc a8 (i := 2) rfl) rfl rfl) trivial) rfl fun _ => ?_
 refine aY (fun f H' => ∃ (o4 : List InsT) (oc : Int) (vb : Bool) (vx : Int) (a1 : Option Addr) (a2 : Nat) (ad : Fp) (F' : Fz), Fz.le k6 F' ∧ HS (Base.of H []) F' H' [c4, c5, c6, N, ag, [(a3, .cells [(.bool vb), (iI vx)] none false)], [(z, .cells [(iI i.op), (iI oa), (iI ob), (iI oc), (iI on)] none false)], ad] R ∧ OS F' (.slice a1 o4.length a2) o4 ad ∧ aH f [(2, (.pointer (some ⟨b1, 0, none⟩))), (5, (.pointer (some ⟨b7, 0, none⟩))), (6, (.pointer (some ⟨ax, 0, none⟩))), (9, (.slice a1 o4.length a2)), (10, (.pointer (some ⟨z, 0, none⟩)))] ∧ (o4 = o3 ++ cV (aj i.op) i a.locs) ∧ (oc = oC (aj i.op) i a.locs) ∧ (in64 oc) ∧ (in64 vx)) (fun hg => ?_) ?_
 ·
  refine ap 1 0 (v := ((aj i.op).form == 4)) rfl rfl rfl rfl (fun f4 => ?_) (fun f4 => ?_)
  ·
   have hM := f4
   try simp only [BS] at hM
   have mW := hC (by assumption)
   refine aa ?_
   obtain ⟨lF, jb⟩ := Sv.view (SR.sv A a8)
   have lm := LocT.fx (jb i.c.toNat)
   let b9 : Value := (.agg ⟨[(.bool (a.locs.getD i.c.toNat default).inS), (iI (a.locs.getD i.c.toNat default).idx)]⟩)
   refine wRo 6 0 [(1, .o (.slice a4 a.locs.length bb)), (3, .o (iI i.c)), (5, .o b9)] 110 115 [] [(115, b9)] (vA (ql 37 0 (HS.hc a8 (i := 1) rfl) rfl rfl) (vA (ql 3 3 (HS.hc a8 (i := 0) rfl) rfl rfl) (vA (Sv.ix (j := i.c) (SR.sv A a8) (by first | (dsimp only; omega) | omega) (by first | (dsimp only; omega) | omega)) (vA (qn 57 0 2 (LocT.vw (jb i.c.toNat) (by first | (dsimp only; omega) | omega)) rfl rfl rfl rfl) trivial)))) rfl fun _ => ?_
   refine aF (aw (q := 5) a8 rfl rfl rfl rfl rfl rfl rfl rfl rfl) rfl ?_
   rintro _ mE _ ⟨(g9 : HS _ _ _ [_, _, _, N, ag, [(a3, .cells [(.bool (a.locs.getD i.c.toNat default).inS), (iI (a.locs.getD i.c.toNat default).idx)] none false)], b8, av] _), _⟩
   refine ab 2 rfl ?_
   refine aa ?_
   refine wRo 1 0 [(0, .o b9)] 116 116 [] [(116, b9)] (vA (qn 57 0 2 (HS.hc g9 (i := 5) rfl) rfl rfl rfl rfl) trivial) rfl fun _ => ?_
   refine az (am rfl rfl rfl) rfl rfl (ig ex (a.locs.getD i.c.toNat default) (7) (HS.call g9) (by first | (dsimp only; omega) | omega) (by first | (dsimp only; omega) | omega) hT) ?_
   rintro _ mF ⟨m8, lZ, dn, he, rfl, rfl⟩
   replace he : HS _ _ _ [_, _, _, _, _, _, _, _] _ := HS.back g9 rfl he
   replace hT := hT.mono dn
   replace V := V.mono dn
   refine wRo 1 2 [] 118 118 [] [(118, (.pointer (some ⟨z, 3, none⟩)))] trivial rfl fun _ => ?_
   refine aF (aw (q := 6) he rfl rfl rfl rfl rfl rfl rfl rfl rfl) rfl ?_
   rintro _ mG _ ⟨(c0 : HS _ _ _ [_, _, _, _, _, _, [(z, .cells [(iI i.op), (iI oa), (iI ob), (iI (fS (a.locs.getD i.c.toNat default).inS (a.locs.getD i.c.toNat default).idx (7 : Int))), (iI on)] none false)], _] _), _⟩
   refine ab 2 rfl ?_
   refine wR 1 [(1, .o (.bool (a.locs.getD i.c.toNat default).inS))] 119 120 [] [(120, (.bool (a.locs.getD i.c.toNat default).inS))] (vA (ql 4 0 (HS.hc c0 (i := 5) rfl) rfl rfl) trivial) rfl fun _ => ?_
   refine ap 0 0 (v := (a.locs.getD i.c.toNat default).inS) rfl rfl rfl rfl (fun f5 => ?_) (fun f5 => ?_)
   ·
    have hQ := f5
    try simp only [BS] at hQ
    have lG := iC (to := 7) (b := (a.locs.getD i.c.toNat default).inS) (x := (a.locs.getD i.c.toNat default).idx)
    refine aa ?_
    refine wRo 2 0 [(1, .o b9)] 121 122 [] [(121, (.slice al o3.length an)), (122, b9)] (vA (qn 57 0 2 (HS.hc c0 (i := 5) rfl) rfl rfl rfl rfl) trivial) rfl fun _ => ?_
    refine az (am rfl rfl rfl) rfl rfl (hR ex (7) (a.locs.getD i.c.toNat default) (HS.call c0) (by first | (dsimp only; omega) | omega) (by first | (dsimp only; omega) | omega) hT) ?_
    rintro _ mH ⟨lC, lS, na, lh, l0, h5, dv, rfl, kt, rfl⟩
    replace dv : HS _ _ _ [_, _, _, _, _, _, _, _, lh] _ := HS.back c0 rfl dv
    replace V := V.mono h5
    refine aC (aW (α := InsT) (q := 7) V dv rfl rfl rfl (OS.sv kt dv (i := 8) rfl) rfl rfl rfl rfl rfl rfl rfl (by first | omega | (simp only [List.length_append, List.length_cons, List.length_nil]; omega))) rfl rfl ?_
    rintro _ mI kF ⟨ky, kB, rfl, kM, (kV : HS _ _ _ [_, _, _, _, _, _, _, kF, _] _), _⟩
    refine wa (.slice ky (o3 ++ (eS (7 : Int) (a.locs.getD i.c.toNat default).inS (a.locs.getD i.c.toNat default).idx)).length kB) rfl rfl rfl ?_
    refine ab 0 rfl ?_
    exact hg _ _ ⟨o3 ++ (eS (7 : Int) (a.locs.getD i.c.toNat default).inS (a.locs.getD i.c.toNat default).idx), fS (a.locs.getD i.c.toNat default).inS (a.locs.getD i.c.toNat default).idx (7 : Int), (a.locs.getD i.c.toNat default).inS, (a.locs.getD i.c.toNat default).idx, ky, kB, kF, _, (fT (dn) h5), (HS.sub kV (List.sublist_append_left _ _)), kM, (agC rfl (agC rfl (agC rfl (agC rfl (agC rfl agN))))), (by unfold cV; (repeat' split) <;> first | rfl | omega | simp_all [eS]), (by unfold oC; (repeat' split) <;> first | rfl | omega | simp_all), (by first | omega | exact ey (by omega) (by omega)), (by first | assumption | omega | (simp at *; omega))⟩
   have hQ := f5
   try simp only [BS] at hQ
   exact hg _ _ ⟨o3, fS (a.locs.getD i.c.toNat default).inS (a.locs.getD i.c.toNat default).idx (7 : Int), (a.locs.getD i.c.toNat default).inS, (a.locs.getD i.c.toNat default).idx, al, an, av, _, (dn), c0, V, (agC rfl (agC rfl (agC rfl (agC rfl (agC rfl agN))))), (by unfold cV; (repeat' split) <;> first | rfl | omega | simp_all [eS]), (by unfold oC; (repeat' split) <;> first | rfl | omega | simp_all), (by first | omega | exact ey (by omega) (by omega)), (by first | assumption | omega | (simp at *; omega))⟩
  have hM := f4
  try simp only [BS] at hM
  exact hg _ _ ⟨o3, 0, false, 0, al, an, av, _, fR, a8, V, (agC rfl (agC rfl (agC rfl (agC rfl (agC rfl agN))))), (by unfold cV; (repeat' split) <;> first | rfl | omega | simp_all [eS]), (by unfold oC; (repeat' split) <;> first | rfl | omega | simp_all), (by first | omega | exact ey (by omega) (by omega)), (by first | assumption | omega | (simp at *; omega))⟩
 skip
 rintro mQ mD ⟨o4, oc, vb, vx, a1, a2, ad, k7, h1, a9, c3, ii, h4, hc, rc, rvx⟩
 refine au _ ii (fun _ => ?_)
 clear ii
 have n4 : o4.length ≤ 3 := by rw [h4, List.length_append]; exact Nat.add_le_add n3 lenC
 refine aq 4 rfl ?_
 refine wR 1 [(1, .o (iI i.op))] 125 128 [] [(125, (.bool (i.op == 38)))] (vA (ql 3 0 (HS.hc a9 (i := 0) rfl) rfl rfl) trivial) rfl fun _ => ?_
 let d4 : Fp := [(a3, .cells [(.bool vb), (iI vx)] none false)]
 refine aY (fun f H' => ∃ (oo : Int) (F' : Fz), Fz.le k7 F' ∧ HS (Base.of H []) F' H' [c4, c5, c6, N, ag, d4, [(z, .cells [(iI oo), (iI oa), (iI ob), (iI oc), (iI on)] none false)], ad] R ∧ aH f [(5, (.pointer (some ⟨b7, 0, none⟩))), (6, (.pointer (some ⟨ax, 0, none⟩))), (9, (.slice a1 o4.length a2)), (10, (.pointer (some ⟨z, 0, none⟩)))] ∧ (oo = opV i) ∧ (in64 oo)) (fun hh => ?_) ?_
 ·
  refine ap 0 1 (v := (i.op == 38)) rfl rfl rfl rfl (fun f7 => ?_) (fun f7 => ?_)
  ·
   have hS := f7
   try simp only [BS] at hS
   refine aa ?_
   refine wRo 1 0 [] 129 129 [] [(129, (.pointer (some ⟨z, 0, none⟩)))] trivial rfl fun _ => ?_
   refine aF (aw (q := 6) a9 rfl rfl rfl rfl rfl rfl rfl rfl rfl) rfl ?_
   rintro _ mK _ ⟨(kW : HS _ _ _ [_, _, _, N, ag, d4, [(z, .cells [(iI 36), (iI oa), (iI ob), (iI oc), (iI on)] none false)], ad] _), _⟩
   refine ab 0 rfl ?_
   exact hh _ _ ⟨36, _, fR, kW, (agC rfl (agC rfl (agC rfl (agC rfl agN)))), (by unfold opV; (repeat' split) <;> first | rfl | omega), (by first | assumption | omega | (simp at *; omega))⟩
  have hS := f7
  try simp only [BS] at hS
  refine wR 1 [(1, .o (iI i.op)), (5, .o (iI i.n)), (9, .o (iI i.n))] 130 143 [] [(130, (.bool ((i.op == 13) && ((decide (i.n < (-4194304))) || (decide ((4194304 : Int) ≤ i.n))))))] (vA (ql 3 0 (HS.hc a9 (i := 0) rfl) rfl rfl) (vA (fun (g1 : (i.op == 13) = true) => (ql 2 4 (HS.hc a9 (i := 0) rfl) rfl rfl)) (vA (fun (g1 : (decide (i.n < (-4194304))) = false) (g2 : (i.op == 13) = true) => (ql 2 4 (HS.hc a9 (i := 0) rfl) rfl rfl)) trivial))) rfl fun _ => ?_
  refine ap 0 0 (v := ((i.op == 13) && ((decide (i.n < (-4194304))) || (decide ((4194304 : Int) ≤ i.n))))) rfl rfl rfl rfl (fun dd => ?_) (fun dd => ?_)
  ·
   have e2 := dd
   try simp only [BS] at e2
   refine aa ?_
   refine wRo 1 0 [] 144 144 [] [(144, (.pointer (some ⟨z, 0, none⟩)))] trivial rfl fun _ => ?_
   refine aF (aw (q := 6) a9 rfl rfl rfl rfl rfl rfl rfl rfl rfl) rfl ?_
   rintro _ lp _ ⟨(ku : HS _ _ _ [_, _, _, N, ag, d4, [(z, .cells [(iI 14), (iI oa), (iI ob), (iI oc), (iI on)] none false)], ad] _), _⟩
   refine ab 0 rfl ?_
   exact hh _ _ ⟨14, _, fR, ku, (agC rfl (agC rfl (agC rfl (agC rfl agN)))), (by unfold opV; (repeat' split) <;> first | rfl | omega), (by first | assumption | omega | (simp at *; omega))⟩
  have e2 := dd
  try simp only [BS] at e2
  exact hh _ _ ⟨i.op, _, fR, a9, (agC rfl (agC rfl (agC rfl (agC rfl agN)))), (by unfold opV; (repeat' split) <;> first | rfl | omega), (by first | assumption | omega | (simp at *; omega))⟩
 skip
 rintro mR mJ ⟨oo, l1, go, i2, ik, ho, ro⟩
 refine au _ ik (fun _ => ?_)
 clear ik
 replace c3 := c3.mono go
 refine aq 3 rfl ?_
 refine aa ?_
 let hk : Value := (.agg ⟨[(iI oo), (iI oa), (iI ob), (iI oc), (iI on)]⟩)
 refine wRo 2 0 [(1, .o hk)] 145 146 [] [(145, (.slice a1 o4.length a2)), (146, hk)] (vA (qn 50 0 5 (HS.hc i2 (i := 6) rfl) rfl rfl rfl rfl) trivial) rfl fun _ => ?_
 refine aC (aP (α := InsT) (ps := [(0, hk)]) (cells := [(iI oo), (iI oa), (iI ob), (iI oc), (iI on)]) ([(⟨oo, oa, ob, oc, on⟩ : InsT)] : List InsT) i2 rfl rfl rfl (by kernel_rfl) ⟨[(iI oo), (iI oa), (iI ob), (iI oc), (iI on)], [], rfl, ⟨rfl, by first | (dsimp only; omega) | omega, by first | (dsimp only; omega) | omega, by first | (dsimp only; omega) | omega, by first | (dsimp only; omega) | omega, by first | (dsimp only; omega) | omega⟩, rfl⟩ rfl) rfl rfl ?_
 rintro _ lq kX ⟨lw, lO, rfl, kk, (hq : HS _ _ _ [_, _, _, N, ag, d4, [(z, .cells [(iI oo), (iI oa), (iI ob), (iI oc), (iI on)] none false)], ad, kX] _), _⟩
 refine aC (aW (α := InsT) (q := 7) c3 hq rfl rfl rfl (OS.sv kk hq (i := 8) rfl) rfl rfl rfl rfl rfl rfl rfl (by first | omega | (simp only [List.length_append, List.length_cons, List.length_nil]; omega))) rfl rfl ?_
 rintro _ lr kc ⟨c8, d1, rfl, hp, (bz : HS _ _ _ [_, _, _, _, _, _, _, kc, _] _), _⟩
 refine wa (.slice c8 (o4 ++ ([(⟨oo, oa, ob, oc, on⟩ : InsT)] : List InsT)).length d1) rfl rfl rfl ?_
 refine ab 3 rfl ?_
 refine wR 1 [(1, .o (.bool (aj i.op).wa)), (4, .o (.bool tb))] 149 154 [] [(154, (.bool ((aj i.op).wa && tb)))] (vA (ql 4 3 (HS.hc bz (i := 2) rfl) rfl rfl) (vA (fun (g1 : (aj i.op).wa = true) => (ql 4 0 (HS.hc bz (i := 3) rfl) rfl rfl)) trivial)) rfl fun _ => ?_
 refine ap 0 2 (v := ((aj i.op).wa && tb)) rfl rfl rfl rfl (fun dk => ?_) (fun dk => ?_)
 ·
  have e3 := dk
  try simp only [BS] at e3
  refine aa ?_
  let kj : Value := (.agg ⟨[(iI 37), (iI 5), (iI 0), (iI 0), (iI tx)]⟩)
  refine wRo 4 0 [(2, .o (iI tx))] 155 158 [] [(155, (.slice c8 (o4 ++ ([(⟨oo, oa, ob, oc, on⟩ : InsT)] : List InsT)).length d1)), (158, kj)] (vA (ql 3 1 (HS.hc bz (i := 3) rfl) rfl rfl) trivial) rfl fun _ => ?_
  refine aC (aP (α := InsT) (ps := [(0, kj)]) (cells := [(iI 37), (iI 5), (iI 0), (iI 0), (iI tx)]) ([(⟨37, 5, 0, 0, tx⟩ : InsT)] : List InsT) bz rfl rfl rfl (by kernel_rfl) ⟨[(iI 37), (iI 5), (iI 0), (iI 0), (iI tx)], [], rfl, ⟨rfl, by first | (dsimp only; omega) | omega, by first | (dsimp only; omega) | omega, by first | (dsimp only; omega) | omega, by first | (dsimp only; omega) | omega, by first | (dsimp only; omega) | omega⟩, rfl⟩ rfl) rfl rfl ?_
  rintro _ lu kY ⟨lz, lP, rfl, kl, (hr : HS _ _ _ [_, _, _, _, _, _, _, _, _, kY] _), _⟩
  refine aC (aW (α := InsT) (q := 7) hp hr rfl rfl rfl (OS.sv kl hr (i := 9) rfl) rfl rfl rfl rfl rfl rfl rfl (by first | omega | (simp only [List.length_append, List.length_cons, List.length_nil]; omega))) rfl rfl ?_
  rintro _ lv kd ⟨e0, hj, rfl, km, (kv : HS _ _ _ [_, _, _, _, _, _, _, kd, _, _] _), _⟩
  refine wa (.slice e0 ((o4 ++ ([(⟨oo, oa, ob, oc, on⟩ : InsT)] : List InsT)) ++ ([(⟨37, 5, 0, 0, tx⟩ : InsT)] : List InsT)).length hj) rfl rfl rfl ?_
  refine ab 2 rfl ?_
  refine wR 1 [] 4 4 [161] [(4, (.slice e0 ((o4 ++ ([(⟨oo, oa, ob, oc, on⟩ : InsT)] : List InsT)) ++ ([(⟨37, 5, 0, 0, tx⟩ : InsT)] : List InsT)).length hj))] trivial rfl fun _ => ?_
  refine ah ⟨.inr rfl, _, rfl, e0, hj, (o4 ++ ([(⟨oo, oa, ob, oc, on⟩ : InsT)] : List InsT)) ++ ([(⟨37, 5, 0, 0, tx⟩ : InsT)] : List InsT), kd, _, (fT (fT (fT (fT (fT (fT (fT (ci) a5) a6) ay) ch) dl) h1) go), (HS.only kv (i := 7) rfl), rfl, km, (by rw [roth_eq hm]; first | exact oth1 h2 h3 h4 ho ha hb hc hn (fun h => ht (.inr h)) (by assumption) | exact oth0 h2 h3 h4 ho ha hb hc hn (fun h => ht (.inr h)) (by assumption))⟩
 have e3 := dk
 try simp only [BS] at e3
 refine wR 1 [] 4 4 [161] [(4, (.slice c8 (o4 ++ ([(⟨oo, oa, ob, oc, on⟩ : InsT)] : List InsT)).length d1))] trivial rfl fun _ => ?_
 refine ah ⟨.inr rfl, _, rfl, c8, d1, o4 ++ ([(⟨oo, oa, ob, oc, on⟩ : InsT)] : List InsT), kc, _, (fT (fT (fT (fT (fT (fT (fT (ci) a5) a6) ay) ch) dl) h1) go), (HS.only bz (i := 7) rfl), rfl, hp, (by rw [roth_eq hm]; first | exact oth1 h2 h3 h4 ho ha hb hc hn (fun h => ht (.inr h)) (by assumption) | exact oth0 h2 h3 h4 ho ha hb hc hn (fun h => ht (.inr h)) (by assumption))⟩
set_option maxHeartbeats 1000000 in
theorem rexpand_c (ex : FuncId) {ad : Option Addr} {ag : Nat} (iv : VInT) {al : Option Addr} {av : Nat} {U : Option Addr} {Z : Nat} (a : AllT) {F : Fz} {H : Heap} {R : List Fp} (hs : HS (.of H []) F H [] R) (f2 : in64 iv.i.op) (f3 : in64 iv.i.a) (f4 : in64 iv.i.b) (f5 : in64 iv.i.c) (f7 : in64 iv.i.n) (E : SR F (.slice ad iv.args.length ag) iv.args) (a0 : SR F (.slice U a.locs.length Z) a.locs) (a1 : SR F (.slice al a.spi.length av) a.spi) (g5 : in64 a.slots) (hT : TB 37 tabC F) (hargs : iv.args.length ≤ 1048576) : C Tryd.prog 1 (KT 60 ex 37 tabC) 43 [(.agg ⟨[(iI iv.i.op), (iI iv.i.a), (iI iv.i.b), (iI iv.i.c), (iI iv.i.n), (.slice ad iv.args.length ag)]⟩), (.agg ⟨[(.slice U a.locs.length Z), (.slice al a.spi.length av), (iI a.slots)]⟩)] H fun v H' => ∃ (ar : Option Addr) (kr : Nat) (r : List InsT) (p : Fp) (F' : Fz), Fz.le F F' ∧ HS (.of H []) F' H' [p] R ∧ v = .slice ar r.length kr ∧ OS F' (.slice ar r.length kr) r p ∧ r = expV iv a.locs := by
 have hsl := sr_len (v := iv)
 refine aJ Tryd.func43 rfl rfl ?_
 refine aq 1 rfl ?_
 refine aa ?_
 refine aC (be hs rfl rfl) rfl rfl ?_
 rintro _ H2 _ ⟨b1, rfl, (fi : HS _ _ _ [[(b1, .cells [(iI iv.i.op), (iI iv.i.a), (iI iv.i.b), (iI iv.i.c), (iI iv.i.n), (.slice ad iv.args.length ag)] none false)]] _), _⟩
 refine aC (be fi rfl rfl) rfl rfl ?_
 rintro _ H4 _ ⟨b3, rfl, (ax : HS _ _ _ [_, [(b3, .cells [(.slice U a.locs.length Z), (.slice al a.spi.length av), (iI a.slots)] none false)]] _), _⟩
 refine wa (.slice none 0 0) rfl rfl rfl ?_
 refine ab 3 rfl ?_
 refine wR 1 [(2, .o (iI iv.i.op)), (3, .o (.bool (alV iv.i.op)))] 7 11 [] [(11, (.bool (!(alV iv.i.op))))] (vA (ql 3 0 (HS.hc ax (i := 0) rfl) rfl rfl) (vA (m1.jJ ex iv.i.op H4) trivial)) rfl fun _ => ?_
 refine ap 1 2 (v := (!(alV iv.i.op))) rfl rfl rfl rfl (fun b8 => ?_) (fun b8 => ?_)
 ·
  have c6 := b8
  try simp only [BS] at c6
  refine wR 1 [] 4 4 [] [(4, (.slice none 0 0))] trivial rfl fun _ => ?_
  refine ah ⟨.inr rfl, _, rfl, none, 0, ([] : List InsT), [], _, fR, (HS.cons (HS.forget ax)), rfl, (OS.nil : OS _ _ _ []), (by exact exp_no (fun h => by simp_all))⟩
 have c6 := b8
 try simp only [BS] at c6
 have hal := c6
 refine aQ rfl ?_
 let bl : Value := (.agg ⟨[(iI iv.i.op), (iI iv.i.a), (iI iv.i.b), (iI iv.i.c), (iI iv.i.n), (.slice ad iv.args.length ag)]⟩)
 refine aB (v := bl) (id := .l b1) (bQ (i := 0) rfl rfl rfl (HS.hc ax.log0 (i := 0) rfl) rfl rfl rfl) rfl rfl (bg rfl) trivial ?_
 refine aX (W := []) (am rfl rfl rfl) rfl rfl rfl (ma.jG ex iv (HS.call ax.log0) (by first | (dsimp only; omega) | omega) (by first | (dsimp only; omega) | omega) (by first | (dsimp only; omega) | omega) (by first | (dsimp only; omega) | omega) (by first | (dsimp only; omega) | omega) E hT (by first | (dsimp only; omega) | omega)) (⟨.inl rfl, trivial⟩) ?_
 rintro _ H8 ⟨hg, hl, r8, F8, an, T, rfl, es, rfl⟩
 refine ⟨Wr.did T.log, fun f0 em => ?_⟩
 replace T := HS.back ax.log0 rfl T
 replace T := HS.lg T ax em
 generalize ({ H8 with log := f0 } : Heap) = hf at T ⊢
 have T : HS _ _ _ [_, _] _ := T
 replace hT := hT.mono an
 replace E := E.mono an
 have a4 := HS.snoc T
 have a4 : HS _ _ _ [_, _, []] _ := a4
 refine cL (id := .x []) (aW (α := Int) (q := 2) (OS.nil : OS F8 (.slice none 0 0) ([] : List Int) []) a4.log0 rfl rfl rfl (SR.sv es a4.log0) rfl rfl rfl rfl rfl rfl rfl (by first | omega | (simp only [List.length_append, List.length_cons, List.length_nil]; omega))) rfl rfl (by rintro _ _ bk ⟨dk, dl, rfl, V, _, hwr⟩; exact dh rfl rfl (Wr.did hwr)) (⟨.inl rfl, ⟨.inl rfl, trivial⟩⟩) ?_
 rintro _ e3 bk ⟨dk, dl, rfl, V, J, _⟩ ez c4
 replace J := HS.lg J a4 c4
 generalize ({ e3 with log := ez } : Heap) = f9 at J ⊢
 have J : HS _ _ _ [_, _, bk] _ := J
 have V : OS F8 (.slice dk (aI iv).length dl) (aI iv) bk := V
 refine aB (v := bl) (id := .l b1) (bQ (i := 0) rfl rfl rfl (HS.hc J.log0 (i := 0) rfl) rfl rfl rfl) rfl rfl (bg rfl) (⟨.inr List.not_mem_nil, ⟨.inr List.not_mem_nil, ⟨.inr trivial, trivial⟩⟩⟩) ?_
 refine aX (W := []) (am rfl rfl rfl) rfl rfl rfl (ma.hN ex iv (HS.call J.log0) (by first | (dsimp only; omega) | omega) (by first | (dsimp only; omega) | omega) (by first | (dsimp only; omega) | omega) (by first | (dsimp only; omega) | omega) (by first | (dsimp only; omega) | omega) E hT) (⟨.inl rfl, ⟨.inl rfl, ⟨.inl rfl, ⟨.inl rfl, trivial⟩⟩⟩⟩) ?_
 rintro _ e4 ⟨g3, g6, hm, f1, g8, N, A, rfl, c8, rfl⟩
 refine ⟨Wr.did A.log, fun e0 c5 => ?_⟩
 replace A := HS.back J.log0 rfl A
 replace A := HS.lg A J c5
 generalize ({ e4 with log := e0 } : Heap) = go at A ⊢
 have A : HS _ _ _ [_, _, _, f1] _ := A
 replace hT := hT.mono N
 replace a0 := (a0.mono an).mono N
 replace a1 := (a1.mono an).mono N
 replace E := E.mono N
 replace V := V.mono N
 refine cL (id := .x (bk.map Prod.fst)) (aW (α := Int) (q := 2) V A.log0 rfl rfl rfl (OS.sv c8 A.log0 (i := 3) rfl) rfl rfl rfl rfl rfl rfl rfl (by first | omega | (simp only [List.length_append, List.length_cons, List.length_nil]; omega))) rfl rfl (by rintro _ _ dn ⟨b0, ch, rfl, a2, _, hwr⟩; exact dh rfl rfl (Wr.did hwr)) (⟨.inl rfl, ⟨.inl rfl, ⟨.inl rfl, ⟨.inl rfl, ⟨.inl rfl, trivial⟩⟩⟩⟩⟩) ?_
 rintro _ e5 dn ⟨b0, ch, rfl, a2, z, _⟩ e1 c7
 replace z := HS.lg z A c7
 generalize ({ e5 with log := e1 } : Heap) = bz at z ⊢
 have z : HS _ _ _ [_, _, dn, _] _ := z
 refine fa (.slice b0 ((aI iv) ++ (ak iv)).length ch) rfl rfl rfl ?_
 refine bU ?_
 refine aq 3 rfl ?_
 refine wR 2 [] 1 0 [6] [(6, (iI 0))] trivial rfl fun _ => ?_
 refine aE (fun (mm : Nat) f H' => ∃ (k : Nat), H' = bz ∧ aH f [(2, (.pointer (some ⟨b1, 0, none⟩))), (3, (.pointer (some ⟨b3, 0, none⟩))), (5, (.slice b0 ((aI iv) ++ (ak iv)).length ch)), (6, (iI (k : Int)))] ∧ mm = (aI iv ++ ak iv).length - k ∧ (k ≤ (aI iv ++ ak iv).length) ∧ (∀ j, j < k → 0 ≤ (aI iv ++ ak iv).getD j 0 ∧ (aI iv ++ ak iv).getD j 0 < (a.locs.length : Int))) _ ⟨0, rfl, (agC rfl (agC rfl (agC rfl (agC rfl agN)))), rfl, (by first | assumption | omega | (simp at *; omega)), (by exact fun j hj => absurd hj (Nat.not_lt_zero _))⟩ ?_
 rintro g7 hh bz ⟨k, rfl, cc, rfl, h1, h2⟩ et
 refine au _ cc (fun _ => ?_)
 clear cc
 have hll : (aI iv ++ ak iv).length ≤ 1048580 := by rw [List.length_append]; omega
 refine aq 2 rfl ?_
 refine wR 1 [] 18 21 [] [(21, (.bool (decide ((k : Int) < (((aI iv) ++ (ak iv)).length : Int)))))] trivial rfl fun _ => ?_
 refine ap 4 6 (v := (decide ((k : Int) < (((aI iv) ++ (ak iv)).length : Int)))) rfl rfl rfl rfl (fun a5 => ?_) (fun a5 => ?_)
 ·
  have b6 := a5
  try simp only [BS] at b6
  obtain ⟨g4, bb⟩ := Sv.view (OS.sv a2 z (i := 2) rfl)
  have hk := fI (bb k)
  refine wRD 1 [(3, .o (iI (((aI iv) ++ (ak iv)).getD k 0))), (9, .o (iI (((aI iv) ++ (ak iv)).getD k 0))), (11, .o (.slice U a.locs.length Z))] 24 38 [] [(38, (.bool ((decide ((((aI iv) ++ (ak iv)).getD k 0) < 0)) || (decide ((a.locs.length : Int) ≤ (((aI iv) ++ (ak iv)).getD k 0))))))] (vA (Sv.ix (j := (k : Int)) (OS.sv a2 z (i := 2) rfl) (by first | (dsimp only; omega) | omega) (by first | (dsimp only; omega) | omega)) (vA (ql 3 0 (hc0 (vI (bb k) (by first | (dsimp only; omega) | omega))) rfl rfl) (vA (fun (g1 : (decide ((((aI iv) ++ (ak iv)).getD k 0) < 0)) = false) => (Sv.ix (j := (k : Int)) (OS.sv a2 z (i := 2) rfl) (by (try simp only [BS] at g1); (first | (dsimp only; omega) | omega)) (by (try simp only [BS] at g1); (first | (dsimp only; omega) | omega)))) (vA (fun (g1 : (decide ((((aI iv) ++ (ak iv)).getD k 0) < 0)) = false) => (ql 3 0 (hc0 (vI (bb k) (by (try simp only [BS] at g1); (first | (dsimp only; omega) | omega)))) rfl rfl)) (vA (fun (g1 : (decide ((((aI iv) ++ (ak iv)).getD k 0) < 0)) = false) => (ql 37 0 (hc0 (HS.hc z (i := 1) rfl)) rfl rfl)) trivial))))) rfl rfl fun _ => ?_
  refine ap 1 2 (v := ((decide ((((aI iv) ++ (ak iv)).getD k 0) < 0)) || (decide ((a.locs.length : Int) ≤ (((aI iv) ++ (ak iv)).getD k 0))))) rfl rfl rfl rfl (fun a6 => ?_) (fun a6 => ?_)
  ·
   have b7 := a6
   try simp only [BS] at b7
   refine wR 1 [] 4 4 [] [(4, (.slice none 0 0))] trivial rfl fun _ => ?_
   refine ah ⟨.inr rfl, _, rfl, none, 0, ([] : List InsT), [], _, (fT (an) N), (HS.cons (HS.forget z)), rfl, (OS.nil : OS _ _ _ []), (by exact exp_no (fun h => rng_no rfl (k := k) (by omega) (by omega) h.2))⟩
  have b7 := a6
  try simp only [BS] at b7
  refine wR 1 [] 22 23 [6] [(6, (iI ((k : Int) + 1)))] (vA (vi (n := (k : Int) + 1) (by first | (dsimp only; omega) | omega)) trivial) rfl fun _ => ?_
  refine et _ _ _ ?_ ⟨k + 1, rfl, (agC rfl (agC rfl (agC rfl (agC rfl agN)))), rfl, (by first | assumption | omega | (simp at *; omega)), (by exact fun j hj => by (rcases Nat.lt_or_ge j k with h | h; exact h2 j h; rw [show j = k by omega]; omega))⟩
  omega
 have b6 := a5
 try simp only [BS] at b6
 have hrg : rngV iv a.locs.length := rng_all rfl (by omega) h2
 have rf := rng_of hal hrg
 refine wR 1 [(2, .o (iI iv.i.op))] 39 42 [] [(42, (.bool (iv.i.op == 6)))] (vA (ql 3 0 (HS.hc z (i := 0) rfl) rfl rfl) trivial) rfl fun _ => ?_
 refine ap 1 2 (v := (iv.i.op == 6)) rfl rfl rfl rfl (fun a7 => ?_) (fun a7 => ?_)
 ·
  have a3 := a7
  try simp only [BS] at a3
  have h6 := a3
  refine aa ?_
  let dv : Value := (.agg ⟨[(.slice U a.locs.length Z), (.slice al a.spi.length av), (iI a.slots)]⟩)
  refine wRo 2 0 [(0, .o bl), (1, .o dv)] 43 44 [] [(43, bl), (44, dv)] (vA (qn 52 0 6 (HS.hc z (i := 0) rfl) rfl rfl rfl rfl) (vA (qn 40 0 3 (HS.hc z (i := 1) rfl) rfl rfl rfl rfl) trivial)) rfl fun _ => ?_
  refine az (am rfl rfl rfl) rfl rfl (rcall_c ex iv a (HS.call z) (by first | (dsimp only; omega) | omega) (by first | (dsimp only; omega) | omega) (by first | (dsimp only; omega) | omega) (by first | (dsimp only; omega) | omega) (by first | (dsimp only; omega) | omega) E a0 a1 (by first | (dsimp only; omega) | omega) hT (by first | assumption | exact rf.a (.inr (.inr (.inl h6))) | exact rf.g h6) (by first | assumption | exact rf.a (.inr (.inr (.inl h6))) | exact rf.g h6) (by first | assumption | exact rf.a (.inr (.inr (.inl h6))) | exact rf.g h6)) ?_
  rintro _ hb ⟨b2, ci, hn, ds, g9, d3, a8, rfl, c9, rfl⟩
  replace a8 : HS _ _ _ [_, _, _, _, ds] _ := HS.back z rfl a8
  refine wa (.slice b2 (iV a.locs iv.args iv.args.length ++ [(⟨6, (iv.args.length : Int), 0, 0, iv.i.n⟩ : InsT)] ++ savV (atV a.locs iv.i.a).inS (atV a.locs iv.i.a).idx).length ci) rfl rfl rfl ?_
  refine ab 1 rfl ?_
  refine ah ⟨.inr rfl, _, rfl, b2, ci, iV a.locs iv.args iv.args.length ++ [(⟨6, (iv.args.length : Int), 0, 0, iv.i.n⟩ : InsT)] ++ savV (atV a.locs iv.i.a).inS (atV a.locs iv.i.a).idx, ds, _, (fT (fT (an) N) d3), (HS.only a8 (i := 4) rfl), rfl, c9, (by exact exp_6 hal hrg h6)⟩
 have a3 := a7
 try simp only [BS] at a3
 have h6 := a3
 refine aa ?_
 let d1 : Value := (.agg ⟨[(iI iv.i.op), (iI iv.i.a), (iI iv.i.b), (iI iv.i.c), (iI iv.i.n)]⟩)
 let d2 : Value := (.agg ⟨[(.slice U a.locs.length Z), (.slice al a.spi.length av), (iI a.slots)]⟩)
 refine wRo 3 0 [(1, .o d1), (2, .o d2)] 46 48 [] [(47, d1), (48, d2)] (vA (qn 50 0 5 (HS.hc z (i := 0) rfl) rfl rfl rfl rfl) (vA (qn 40 0 3 (HS.hc z (i := 1) rfl) rfl rfl rfl rfl) trivial)) rfl fun _ => ?_
 refine az (am rfl rfl rfl) rfl rfl (roth_c ex (⟨iv.i.op, iv.i.a, iv.i.b, iv.i.c, iv.i.n⟩ : InsT) a (HS.call z) (by first | (dsimp only; omega) | omega) (by first | (dsimp only; omega) | omega) (by first | (dsimp only; omega) | omega) (by first | (dsimp only; omega) | omega) (by first | (dsimp only; omega) | omega) a0 a1 (by first | (dsimp only; omega) | omega) hT (by first | exact fun h => rf.a (rng_va h) | exact fun h => rf.b (by rw [← vrb]; exact h) | exact fun h => rf.c ((vf4 hal).1 h)) (by first | exact fun h => rf.a (rng_va h) | exact fun h => rf.b (by rw [← vrb]; exact h) | exact fun h => rf.c ((vf4 hal).1 h)) (by first | exact fun h => rf.a (rng_va h) | exact fun h => rf.b (by rw [← vrb]; exact h) | exact fun h => rf.c ((vf4 hal).1 h))) ?_
 rintro _ he ⟨b4, co, hp, dt, ha, d4, a9, rfl, dd, rfl⟩
 replace a9 : HS _ _ _ [_, _, _, _, dt] _ := HS.back z rfl a9
 refine wa (.slice b4 (if (⟨iv.i.op, iv.i.a, iv.i.b, iv.i.c, iv.i.n⟩ : InsT).op = 10 then movV (⟨iv.i.op, iv.i.a, iv.i.b, iv.i.c, iv.i.n⟩ : InsT) a.locs else gv (aj (⟨iv.i.op, iv.i.a, iv.i.b, iv.i.c, iv.i.n⟩ : InsT).op) (⟨iv.i.op, iv.i.a, iv.i.b, iv.i.c, iv.i.n⟩ : InsT) a.locs).length co) rfl rfl rfl ?_
 refine ab 1 rfl ?_
 refine ah ⟨.inr rfl, _, rfl, b4, co, if (⟨iv.i.op, iv.i.a, iv.i.b, iv.i.c, iv.i.n⟩ : InsT).op = 10 then movV (⟨iv.i.op, iv.i.a, iv.i.b, iv.i.c, iv.i.n⟩ : InsT) a.locs else gv (aj (⟨iv.i.op, iv.i.a, iv.i.b, iv.i.c, iv.i.n⟩ : InsT).op) (⟨iv.i.op, iv.i.a, iv.i.b, iv.i.c, iv.i.n⟩ : InsT) a.locs, dt, _, (fT (fT (an) N) d4), (HS.only a9 (i := 4) rfl), rfl, dd, (by exact exp_o hal hrg h6)⟩
end Go.Proofs.YtknafdcgpaejlaaDoor.xa
