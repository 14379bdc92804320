/-
 Live registers: AcrossCalls, by a symbolic run. No condition but bounds on lengths.
-/
import Derived.Test.YtknafdcgpaejlaaDoorZGMF
noncomputable section
namespace Go.Proofs.YtknafdcgpaejlaaDoor.mg
open Go.R
set_option maxRecDepth 10000
set_option linter.unusedVariables false
set_option linter.unusedSimpArgs false
open m1 m2 m3 m4 m5 m6 ma ml mb mc md mf
def acK (c : VFnT) (k r : Nat) : Prop := ∃ b i, b < k ∧ i < (bQ c b).ins.length ∧ acI c b i r
end Go.Proofs.YtknafdcgpaejlaaDoor.mg
