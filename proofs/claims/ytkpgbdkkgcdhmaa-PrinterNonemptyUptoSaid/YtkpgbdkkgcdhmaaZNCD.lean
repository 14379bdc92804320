/-
The check of the reference. No condition but that the program has less than 2^62 parts.
-/
import Derived.Test.YtkpgbdkkgcdhmaaZNCC
noncomputable section
namespace Go.Proofs.Ytkpgbdkkgcdhmaa.cd
open Go.R
set_option maxRecDepth 10000
set_option linter.unusedVariables false
set_option linter.unusedSimpArgs false
open w3 l1 pt ca cb cc
def TiP(p:PrgT):Prop:=p.arrs.length<=4/\p.funs.length<=8/\∀f∈p.funs,f.pars.length<=6/\f.locs.length<=8
end Go.Proofs.Ytkpgbdkkgcdhmaa.cd
