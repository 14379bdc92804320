/-
 A whole run of virtual code by the program, by a symbolic run. No condition but bounds on lengths and that the table lies as laid.
-/
import Derived.Test.YtlabedbmgmfbaaaDoorZDIS
import Derived.Test.YtlabedbmgmfbaaaDoorZDID
import Derived.Test.YtlabedbmgmfbaaaDoorZDRC
noncomputable section
namespace Go.Proofs.YtlabedbmgmfbaaaDoor.ir
open Go.R
set_option maxRecDepth 10000
set_option linter.unusedVariables false
open m1 m2 m3 m4 m5 m6 m7 m8 iw ia ib ic is_ id_
structure OutT where
 kind : Int
 code : Int
 out : (List Int)
 val : Int
 deriving Inhabited, DecidableEq
instance : Rp OutT where
 sz := 4
 rep F cs x := ∃ a2 k2, cs = [.int .i64 x.kind, .int .i64 x.code, .slice a2 x.out.length k2, .int .i64 x.val] ∧ in64 x.kind ∧ in64 x.code ∧ in64 x.val ∧ SR F (.slice a2 x.out.length k2) x.out
 len := by rintro F cs x ⟨a2, k2, rfl, _⟩; rfl
 one := by rintro F cs x ⟨a2, k2, rfl, _⟩; rfl
 mono := by rintro F F' cs x hF ⟨a2, k2, rfl, h0, h1, h2, h3⟩; exact ⟨a2, k2, rfl, h0, h1, h2, h3.mono hF⟩
def outV (r : Option RunS) : OutT := match r with
 | some s => ⟨s.kind, s.code, s.out, s.val⟩
 | none => ⟨0, 0, [], 0⟩
end Go.Proofs.YtlabedbmgmfbaaaDoor.ir
