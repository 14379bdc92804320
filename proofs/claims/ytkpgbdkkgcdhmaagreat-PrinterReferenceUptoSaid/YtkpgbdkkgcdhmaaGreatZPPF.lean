/-
The parser: functions and programs. No condition but that its place lies in the list.
-/
import Derived.Test.YtkpgbdkkgcdhmaaGreatZPPE
noncomputable section
namespace Go.Proofs.YtkpgbdkkgcdhmaaGreat.pf
open Go.R
set_option maxRecDepth 10000
set_option linter.unusedVariables false
set_option linter.unusedSimpArgs false
open w1 w3 l1 pt pa pb pc pd pe
variable (ts:List Token)
end Go.Proofs.YtkpgbdkkgcdhmaaGreat.pf
