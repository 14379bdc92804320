/- The call of the closed law RegAllocExamples, evaluated over the heap that holds the table: it returns true. No condition. -/
import Derived.Test.YtknafdcgpaejlaaDoorZMR0
import Derived.Test.YtknafdcgpaejlaaDoorProg
import Derived.KernelRfl
namespace Go.Proofs.YtknafdcgpaejlaaDoor.regAllocMatches
abbrev f:Value:=.bool false
abbrev t:Value:=.bool true
abbrev i(n:Int):Value:=.int .i64 n
abbrev g(l:List UInt8):Value:=.string ⟨⟨l⟩⟩
noncomputable def cellsT:List Value:=[g [110,111,112],i 1,f,f,f,f,i 1,g [114,101,116],i 1,f,f,f,f,i 1,g [116,105,99,107],i 1,f,f,f,f,i 1,g [116,114,97,112],i 8,f,f,f,t,i 1,g [106,109,112],i 8,f,f,f,f,i 1,g [99,97,108,108],i 5,f,f,f,f,i 1,g [106,122],i 5,t,f,f,f,i 1,g [106,110,122],i 5,t,f,f,f,i 1,g [111,117,116],i 2,t,f,f,f,i 1,g [109,111,118],i 3,f,t,t,f,i 1,g [99,109,111,118,122],i 4,t,t,t,f,i 1,g [99,109,111,118,110,122],i 4,t,t,t,f,i 1,g [108,100,105],i 5,f,t,f,f,i 1,g [108,100,99],i 6,f,t,f,f,i 3,g [110,101,103],i 2,t,t,f,f,i 1,g [110,111,116],i 2,t,t,f,f,i 1,g [97,100,100],i 3,t,t,t,f,i 1,g [115,117,98],i 3,t,t,t,f,i 1,g [109,117,108],i 3,t,t,t,f,i 1,g [100,105,118],i 3,t,t,t,t,i 1,g [114,101,109],i 3,t,t,t,t,i 1,g [97,110,100],i 3,t,t,t,f,i 1,g [111,114],i 3,t,t,t,f,i 1,g [120,111,114],i 3,t,t,t,f,i 1,g [115,104,108],i 3,t,t,t,f,i 1,g [115,104,114],i 3,t,t,t,f,i 1,g [115,97,114],i 3,t,t,t,f,i 1,g [101,113],i 3,t,t,t,f,i 1,g [110,101],i 3,t,t,t,f,i 1,g [108,116],i 3,t,t,t,f,i 1,g [108,101],i 3,t,t,t,f,i 1,g [108,116,117],i 3,t,t,t,f,i 1,g [97,100,100,105],i 5,t,t,f,f,i 1,g [108,100],i 7,f,t,t,t,i 1,g [115,116],i 7,t,f,t,t,i 1,g [108,100,115],i 5,f,t,f,f,i 1,g [115,116,115],i 5,t,f,f,f,i 1]
theorem evaluated : Go.R.saysTrue (Go.R.call Tryd.prog 1 Go.R.noneKnown 1000 15 [] (Go.R.tabHeap 37 cellsT)) = true := by kernel_rfl
end Go.Proofs.YtknafdcgpaejlaaDoor.regAllocMatches
