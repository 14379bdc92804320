/-
 Live registers: the reference, function by function, each by a symbolic run. No condition but bounds on lengths.
-/
import Derived.Test.YtknafdcgpaejlaaDoorZSMG
import Derived.Test.YtknafdcgpaejlaaDoorZSRC
noncomputable section
namespace Go.Proofs.YtknafdcgpaejlaaDoor.mh
open Go.R
set_option maxRecDepth 10000
set_option linter.unusedVariables false
set_option linter.unusedSimpArgs false
open m1 m2 m3 m4 m5 m6 ma ml mb mc md mf mg
def oS (o : List Int) (r : Nat) : Prop := (r : Int) ∈ o
structure RpO (b : BlkT) (o : List Int) (g : Int) : Prop where
 gb : 0 ≤ g ∧ g ≤ 3000
 len : b.ins.length ≤ 1073741824
 ins : ∀ i, i < b.ins.length → (∀ x ∈ aD (b.ins.getD i default), 0 ≤ x ∧ x < g) ∧ (∀ x ∈ ab (b.ins.getD i default), 0 ≤ x ∧ x < g) ∧ (b.ins.getD i default).args.length ≤ 6
 fin : ∀ x ∈ endV b, 0 ≤ x ∧ x < g
 asc : Asc o
 mem : ∀ x ∈ o, 0 ≤ x ∧ x < g
def rpS (b : BlkT) (o : List Int) (i : Nat) : Nat → Prop := tr (b.ins.drop i) (endS b (oS o))
structure RpF (b : BlkT) (o : List Int) (l : List (List Int)) : Prop where
 len : l.length = b.ins.length + 1
 pt : ∀ i, i ≤ b.ins.length → Lst (l.getD i default) (rpS b o i)
def acV (v : VInT) (l : List Int) : List Int := if v.i.op = 6 then gE (minV l [v.i.a]) (aD v) else []
end Go.Proofs.YtknafdcgpaejlaaDoor.mh
