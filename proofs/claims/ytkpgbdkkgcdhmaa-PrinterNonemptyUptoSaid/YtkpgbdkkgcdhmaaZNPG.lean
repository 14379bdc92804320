/-
The parser of the program. No condition.
-/
import Derived.Test.YtkpgbdkkgcdhmaaZNPF
noncomputable section
namespace Go.Proofs.Ytkpgbdkkgcdhmaa.pg
open Go.R
set_option maxRecDepth 10000
set_option linter.unusedVariables false
set_option linter.unusedSimpArgs false
open w1 w3 l1 pt pa pb pc pd pe pf
def ParR(s:List UInt8)(p:PrgT)(e:ErrT):Prop:=
 if(bR s).2.1=0 then ∃(x:List ArrT×List FunT) (i:Int) (b:Bool),Outc (fun n=>prgL (bR s).1 n [] [] 0) x i b/\i<=((bR s).1.length:Int)/\p=(if b then⟨[],[]⟩ else⟨x.1,x.2⟩)/\e=(if b then⟨2,offV (bR s).1 i (s.length:Int)⟩ else⟨0,0⟩)
 else p=⟨[],[]⟩/\e=⟨(bR s).2.1,(bR s).2.2⟩
end Go.Proofs.Ytkpgbdkkgcdhmaa.pg
