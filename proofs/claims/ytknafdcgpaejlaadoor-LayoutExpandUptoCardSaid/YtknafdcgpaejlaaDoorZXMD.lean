/-
 Live registers: Blocks, Points and AcrossCalls, each by a symbolic run. No condition but bounds on lengths.
-/
import Derived.Test.YtknafdcgpaejlaaDoorZXMC
noncomputable section
namespace Go.Proofs.YtknafdcgpaejlaaDoor.md
open Go.R
set_option maxRecDepth 10000
set_option linter.unusedVariables false
set_option linter.unusedSimpArgs false
open m1 m2 m3 m4 m5 m6 ma ml mb mc
structure Lst (l : List Int) (S : Nat → Prop) : Prop where
 asc : Asc l
 mem : ∀ x, x ∈ l ↔ 0 ≤ x ∧ S x.toNat
structure BkF (c : VFnT) (x y : List (List Int)) : Prop where
 lx : x.length = c.blocks.length
 ly : y.length = c.blocks.length
 hx : ∀ b, b < c.blocks.length → Lst (x.getD b default) (LIn c b)
 hy : ∀ b, b < c.blocks.length → Lst (y.getD b default) (LOut c b)
def ptS (c : VFnT) (b i : Nat) : Nat → Prop := tr ((dO c b).ins.drop i) (endS (dO c b) (LOut c b))
structure PtF (c : VFnT) (b : Nat) (l : List (List Int)) : Prop where
 len : l.length = (dO c b).ins.length + 1
 pt : ∀ i, i ≤ (dO c b).ins.length → Lst (l.getD i default) (ptS c b i)
def acI (c : VFnT) (b i r : Nat) : Prop := ((dO c b).ins.getD i default).i.op = 6 ∧ ((ptS c b (i + 1) r ∧ (r : Int) ≠ ((dO c b).ins.getD i default).i.a) ∨ (r : Int) ∈ ((dO c b).ins.getD i default).args)
def acS (c : VFnT) (r : Nat) : Prop := ∃ b i, b < c.blocks.length ∧ i < (dO c b).ins.length ∧ acI c b i r
end Go.Proofs.YtknafdcgpaejlaaDoor.md
