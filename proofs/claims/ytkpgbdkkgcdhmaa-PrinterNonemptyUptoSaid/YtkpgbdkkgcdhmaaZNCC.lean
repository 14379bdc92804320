/-
The check of the reference: names, each function by a symbolic run. No condition but that the program has less than 2^62 parts.
-/
import Derived.Test.YtkpgbdkkgcdhmaaZNCB
noncomputable section
namespace Go.Proofs.Ytkpgbdkkgcdhmaa.cc
open Go.R
set_option maxRecDepth 10000
set_option linter.unusedVariables false
set_option linter.unusedSimpArgs false
open w3 l1 pt ca cb
structure ScpT where
 vars:(List Str)
 arrs:(List Str)
 p:PrgT
 deriving Inhabited
instance :Rp ScpT where
 sz:=4
 rep F cs x:= ∃a0 k0 a1 k1 a2 k2 a3 k3,cs=[sL a0 x.vars.length k0,sL a1 x.arrs.length k1,sL a2 x.p.arrs.length k2,sL a3 x.p.funs.length k3]/\SR F (sL a0 x.vars.length k0) x.vars/\SR F (sL a1 x.arrs.length k1) x.arrs/\SR F (sL a2 x.p.arrs.length k2) x.p.arrs/\SR F (sL a3 x.p.funs.length k3) x.p.funs
 len:=by rintro F cs x ⟨a0,k0,a1,k1,a2,k2,a3,k3,rfl,_⟩;rfl
 one:=by rintro F cs x ⟨a0,k0,a1,k1,a2,k2,a3,k3,rfl,_⟩;rfl
 mono:=by rintro F F' cs x hF ⟨a0,k0,a1,k1,a2,k2,a3,k3,rfl,h0,h1,h2,h3⟩;exact⟨a0,k0,a1,k1,a2,k2,a3,k3,V,h0.mono hF,h1.mono hF,h2.mono hF,h3.mono hF⟩
def csS(cnt:Bool)(x:ScpT)(l:List StmT):Bool:=if cnt=true then arSs x.p l else dfSs x.vars x.arrs x.p l
def cnK(cnt:Bool)(x:ScpT)(s:StmT):Bool:=if cnt=true then arK x.p s else dfK x.vars x.arrs x.p s
end Go.Proofs.Ytkpgbdkkgcdhmaa.cc
