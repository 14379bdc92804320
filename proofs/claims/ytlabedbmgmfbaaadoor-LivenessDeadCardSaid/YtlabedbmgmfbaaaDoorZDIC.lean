/-
 The interpreter of virtual code, step by step, by symbolic runs. No condition but that the table lies as laid.
-/
import Derived.Test.YtlabedbmgmfbaaaDoorZDIB
noncomputable section
namespace Go.Proofs.YtlabedbmgmfbaaaDoor.ic
open Go.R
set_option maxRecDepth 10000
set_option linter.unusedVariables false
open m1 m2 m3 m4 m5 m6 m7 m8 iw ia ib
end Go.Proofs.YtlabedbmgmfbaaaDoor.ic
