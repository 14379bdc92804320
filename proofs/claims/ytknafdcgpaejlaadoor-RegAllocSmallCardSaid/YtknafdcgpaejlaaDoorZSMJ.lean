/-
 Live registers: the reference points and calls, by a symbolic run. No condition but bounds on lengths.
-/
import Derived.Test.YtknafdcgpaejlaaDoorZSMI
import Derived.Test.YtknafdcgpaejlaaDoorZSRC
noncomputable section
namespace Go.Proofs.YtknafdcgpaejlaaDoor.mj
open Go.R
set_option maxRecDepth 10000
set_option linter.unusedVariables false
set_option linter.unusedSimpArgs false
open m1 m2 m3 m4 m5 m6 ma ml mb mc md mf mg mh mi
def acJ (c : VFnT) (b k r : Nat) : Prop := acK c b r ∨ ∃ j, j < k ∧ acI c b j r
end Go.Proofs.YtknafdcgpaejlaaDoor.mj
