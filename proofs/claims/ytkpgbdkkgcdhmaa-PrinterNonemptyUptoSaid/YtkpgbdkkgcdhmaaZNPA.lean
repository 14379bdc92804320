/-
The reader of the parser: its plain steps. No condition but that its place lies in the list.
-/
import Derived.Test.YtkpgbdkkgcdhmaaZNPT
noncomputable section
namespace Go.Proofs.Ytkpgbdkkgcdhmaa.pa
open Go.R
set_option maxRecDepth 10000
set_option linter.unusedVariables false
set_option linter.unusedSimpArgs false
open w1 w3 l1 pt
def nxT(r:RdrT):Token:=if r.bad=true\/(r.l.length:Int)<=r.at_ then default else r.l.getD r.at_.toNat default
def offV(l:List Token)(i A:Int):Int:=if i<(l.length:Int) then(l.getD i.toNat default).at_ else A
def isB(r:RdrT)(s:List UInt8):Bool:= !r.bad&&isS r.l r.at_.toNat s
def kwB(r:RdrT)(s:List UInt8):Bool:= !r.bad&&isK r.l r.at_.toNat s
def anB(r:RdrT):Bool:= !r.bad&&isN r.l r.at_.toNat
variable (ts:List Token)
end Go.Proofs.Ytkpgbdkkgcdhmaa.pa
