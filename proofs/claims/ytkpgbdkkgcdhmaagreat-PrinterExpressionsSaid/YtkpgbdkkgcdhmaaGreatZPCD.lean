/-
The check of the reference. No condition but that the program has less than 2^62 parts.
-/
import Derived.Test.YtkpgbdkkgcdhmaaGreatZPCC
noncomputable section
namespace Go.Proofs.YtkpgbdkkgcdhmaaGreat.cd
open Go.R
set_option maxRecDepth 10000
set_option linter.unusedVariables false
set_option linter.unusedSimpArgs false
open w3 l1 pt ca cb cc
def TiP(p:PrgT):Prop:=p.arrs.length<=4/\p.funs.length<=8/\∀f∈p.funs,f.pars.length<=6/\f.locs.length<=8
theorem ck_0{p:PrgT}(h:exL p=false)(k:wfP p=true)(d:dupP p=false)(e:p.funs.all (dfF p)=true)(g:p.funs.all (arF p)=true):chk p=0:=by unfold chk;rw[if_neg (by rw[h];decide),if_neg (by rw[k];decide),if_neg (by rw[d];decide),if_neg (by rw[e];decide),if_neg (by rw[g];decide)]
end Go.Proofs.YtkpgbdkkgcdhmaaGreat.cd
