/-
The parser: numbers, operators, names. No condition but that its place lies in the list.
-/
import Derived.Test.YtkpgbdkkgcdhmaaZNPA
noncomputable section
namespace Go.Proofs.Ytkpgbdkkgcdhmaa.pb
open Go.R
set_option maxRecDepth 10000
set_option linter.unusedVariables false
set_option linter.unusedSimpArgs false
open w1 w3 l1 pt pa
def opAL:List (List UInt8×Int×Int×Bool):=[([43],4,6,false),([45],5,6,false),([42],6,7,false),([47],7,7,false),([37],8,7,false)]
def opA(s:List UInt8):Int×Int×Bool:=((opAL.find? fun q=>decide (s=q.1)).map (·.2)).getD (0,0,false)
variable (ts:List Token)
def tx(ts:List Token)(i:Nat):List UInt8:=(ts.getD i default).text.b
def acB(ts:List Token)(r:RdrT):Bool:=anB r&&isS ts (r.at_.toNat+1) [40]
end Go.Proofs.Ytkpgbdkkgcdhmaa.pb
