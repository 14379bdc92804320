/-
The parser: statements. No condition but that its place lies in the list.
-/
import Derived.Test.YtkpgbdkkgcdhmaaZNPC
noncomputable section
namespace Go.Proofs.Ytkpgbdkkgcdhmaa.pd
open Go.R
set_option maxRecDepth 10000
set_option linter.unusedVariables false
set_option linter.unusedSimpArgs false
open w1 w3 l1 pt pa pb pc
variable (ts:List Token)
end Go.Proofs.Ytkpgbdkkgcdhmaa.pd
