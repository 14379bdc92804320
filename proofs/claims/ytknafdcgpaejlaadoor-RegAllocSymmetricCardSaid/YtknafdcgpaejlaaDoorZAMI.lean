/-
 Live registers: the reference solution of the equations, by a symbolic run. No condition but bounds on lengths.
-/
import Derived.Test.YtknafdcgpaejlaaDoorZAMH
noncomputable section
namespace Go.Proofs.YtknafdcgpaejlaaDoor.mi
open Go.R
set_option maxRecDepth 10000
set_option linter.unusedVariables false
open m1 m2 m3 m4 m5 m6 ma ml mb mc md mf mg mh
abbrev rowN (l : List (List Int)) (b : Nat) : List Int := l.getD b default
structure RSn (c : VFnT) (I O : List (List Int)) : Prop where
 li : I.length = c.blocks.length
 lo : O.length = c.blocks.length
 ai : ∀ b, Asc (rowN I b)
 ao : ∀ b, Asc (rowN O b)
 si : ∀ b, ∀ x ∈ rowN I b, 0 ≤ x ∧ LIn c b x.toNat
 so : ∀ b, ∀ x ∈ rowN O b, 0 ≤ x ∧ LOut c b x.toNat
 mo : ∀ b, b < c.blocks.length → ∀ r, oS (rowN O b) r → outS c (fun t r => oS (rowN I t) r) b r
 mi : ∀ b, b < c.blocks.length → ∀ r, oS (rowN I b) r → inS (blkN c b) (oS (rowN O b)) r
theorem row_set {l : List (List Int)} {b b' : Nat} {x : List Int} (hb : b < l.length) : rowN (l.set b x) b' = if b = b' then x else rowN l b' := by
 unfold rowN
 rw [at_set]
 by_cases h : b = b'
 ·
  subst h; rw [if_pos ⟨rfl, hb⟩, if_pos rfl]
 ·
  rw [if_neg (fun e => h e.1), if_neg h]
theorem Lst.ext {l : List Int} {S S' : Nat → Prop} (h : Lst l S) (hs : ∀ r, S r ↔ S' r) : Lst l S' := ⟨h.asc, fun x => by rw [h.mem, hs]⟩
def uS (c : VFnT) (I : List (List Int)) (b q r : Nat) : Prop := ∃ t ∈ (succV (blkN c b)).take q, oS (rowN I t.toNat) r
structure Stp (c : VFnT) (I O : List (List Int)) (b : Nat) (o i : List Int) : Prop where
 lo : Lst o (outS c (fun t r => oS (rowN I t) r) b)
 li : Lst i (inS (blkN c b) (oS o))
def cntL (I : List (List Int)) : Nat := (I.map List.length).sum
def cnt2 (I O : List (List Int)) : Nat := cntL I + cntL O
def CL (c : VFnT) (I O : List (List Int)) (b : Nat) : Prop := (∀ r, outS c (fun t r => oS (rowN I t) r) b r → oS (rowN O b) r) ∧ ∀ r, inS (blkN c b) (oS (rowN O b)) r → oS (rowN I b) r
end Go.Proofs.YtknafdcgpaejlaaDoor.mi
