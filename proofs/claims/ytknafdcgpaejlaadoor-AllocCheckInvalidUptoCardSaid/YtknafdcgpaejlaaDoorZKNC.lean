/-
 How often registers are used: the allocator, by a symbolic run. No condition but bounds on lengths.
-/
import Derived.Test.YtknafdcgpaejlaaDoorZKNB
noncomputable section
namespace Go.Proofs.YtknafdcgpaejlaaDoor.nc
open Go.R
set_option maxRecDepth 10000
set_option linter.unusedVariables false
set_option linter.unusedSimpArgs false
open m1 m2 m3 m4 m5 m6 ma ml mb mc md mf mg mh mi mj na nb
def usedI(v:VInT):List Int:=aO v++ab v
def usedB(b:BlkT):List Int:=b.ins.flatMap usedI++jF b
def usedC(c:VFnT):List Int:=c.blocks.flatMap usedB
def UsP(c:VFnT)(k n:Nat)(l:List Int):List Int:=(c.blocks.take k).flatMap usedB++((bL c k).ins.take n).flatMap usedI++l
structure CntF(c:VFnT)(L o:List Int):Prop where
 len:o.length=c.regs.toNat
 at_: ∀r,r<c.regs.toNat->o.getD r 0=(L.count (r:Int):Int)
end Go.Proofs.YtknafdcgpaejlaaDoor.nc
