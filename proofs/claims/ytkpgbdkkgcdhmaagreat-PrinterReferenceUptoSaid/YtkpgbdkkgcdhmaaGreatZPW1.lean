/-
The functions on words of the program, of the reference and of the generator. No condition but that an argument is a word.
-/
import Derived.Test.YtkpgbdkkgcdhmaaGreatZPRD
import Derived.Test.YtkpgbdkkgcdhmaaGreatZPRC
import Derived.Test.YtkpgbdkkgcdhmaaGreatChecked
noncomputable section
namespace Go.Proofs.YtkpgbdkkgcdhmaaGreat.w1
open Go.R
set_option maxRecDepth 10000
set_option linter.unusedVariables false
set_option linter.unusedSimpArgs false
abbrev w64(n:Int):Int:=IntKind.i64.wrap n
def truthV(b:Bool):Int:=bif b then 1 else 0
def quoV(a b:Int):Int:=bif b==0 then 0 else bif b== -1 then w64 (0-a) else w64 (Int.tdiv a b)
def byV(b:Int):Int:=IntKind.u64.wrap (dw .and .i64 b 63)
def shcV(op a b:Int):Int:=
 bif op==12 then w64 (a *2^(Nat.min (byV b).toNat 64))
 else bif op==13 then w64 (Int.fdiv (IntKind.u64.wrap a) (2^(Nat.min (byV b).toNat 64)))
 else bif op==14 then Int.fdiv a (2^(Nat.min (byV b).toNat 64))
 else bif op==15 then truthV (a==b)
 else bif op==16 then truthV (a !=b)
 else bif op==17 then truthV (decide (a<b))
 else bif op==18 then truthV (decide (a<=b))
 else bif op==19 then truthV (decide (IntKind.u64.wrap a<IntKind.u64.wrap b))
 else 0
def binV(op a b:Int):Int:=
 bif op==4 then w64 (a+b)
 else bif op==5 then w64 (a-b)
 else bif op==6 then w64 (a *b)
 else bif op==7 then quoV a b
 else bif op==8 then(bif b==0 then 0 else w64 (a-w64 (quoV a b *b)))
 else bif op==9 then dw .and .i64 a b
 else bif op==10 then dw .or .i64 a b
 else bif op==11 then dw .xor .i64 a b
 else shcV op a b
def unV(op a:Int):Int:=bif op==20 then w64 (0-a) else bif op==21 then bits .xor .i64 (-1) a else 0
def kT(n m:Int):Int:=bif decide (Int.tmod n m<0) then Int.tmod n m+m else Int.tmod n m
end Go.Proofs.YtkpgbdkkgcdhmaaGreat.w1
