/-
 Live registers: the reference solution of the equations, by a symbolic run. No condition but bounds on lengths.
-/
import Derived.Test.YtknafdcgpaejlaaDoorZSMH
import Derived.Test.YtknafdcgpaejlaaDoorZSRC
noncomputable section
namespace Go.Proofs.YtknafdcgpaejlaaDoor.mi
open Go.R
set_option maxRecDepth 10000
set_option linter.unusedVariables false
set_option linter.unusedSimpArgs false
open m1 m2 m3 m4 m5 m6 ma ml mb mc md mf mg mh
abbrev ej (l : List (List Int)) (b : Nat) : List Int := l.getD b default
structure RSn (c : VFnT) (I O : List (List Int)) : Prop where
 li : I.length = c.blocks.length
 lo : O.length = c.blocks.length
 ai : ∀ b, Asc (ej I b)
 ao : ∀ b, Asc (ej O b)
 si : ∀ b, ∀ x ∈ ej I b, 0 ≤ x ∧ LIn c b x.toNat
 so : ∀ b, ∀ x ∈ ej O b, 0 ≤ x ∧ LOut c b x.toNat
 mo : ∀ b, b < c.blocks.length → ∀ r, oS (ej O b) r → outS c (fun t r => oS (ej I t) r) b r
 mi : ∀ b, b < c.blocks.length → ∀ r, oS (ej I b) r → inS (bz c b) (oS (ej O b)) r
theorem dq {l : List (List Int)} {b b' : Nat} {x : List Int} (hb : b < l.length) : ej (l.set b x) b' = if b = b' then x else ej l b' := by
 unfold ej
 rw [ec]
 by_cases h : b = b'
 ·
  subst h; rw [if_pos ⟨rfl, hb⟩, if_pos rfl]
 rw [if_neg (fun e => h e.1), if_neg h]
theorem Lst.ext {l : List Int} {S S' : Nat → Prop} (h : Lst l S) (hs : ∀ r, S r ↔ S' r) : Lst l S' := ⟨h.asc, fun x => by rw [h.mem, hs]⟩
def uS (c : VFnT) (I : List (List Int)) (b q r : Nat) : Prop := ∃ t ∈ (br (bz c b)).take q, oS (ej I t.toNat) r
structure Stp (c : VFnT) (I O : List (List Int)) (b : Nat) (o i : List Int) : Prop where
 lo : Lst o (outS c (fun t r => oS (ej I t) r) b)
 li : Lst i (inS (bz c b) (oS o))
def cntL (I : List (List Int)) : Nat := (I.map List.length).sum
def cnt2 (I O : List (List Int)) : Nat := cntL I + cntL O
def CL (c : VFnT) (I O : List (List Int)) (b : Nat) : Prop := (∀ r, outS c (fun t r => oS (ej I t) r) b r → oS (ej O b) r) ∧ ∀ r, inS (bz c b) (oS (ej O b)) r → oS (ej I b) r
end Go.Proofs.YtknafdcgpaejlaaDoor.mi
