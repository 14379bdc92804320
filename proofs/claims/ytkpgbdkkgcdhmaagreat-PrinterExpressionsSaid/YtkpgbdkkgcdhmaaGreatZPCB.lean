/-
The check of the reference: which programs a parser can give, each function by a symbolic run. No condition but that the program has less than 2^62 parts.
-/
import Derived.Test.YtkpgbdkkgcdhmaaGreatZPCA
noncomputable section
namespace Go.Proofs.YtkpgbdkkgcdhmaaGreat.cb
open Go.R
set_option maxRecDepth 10000
set_option linter.unusedVariables false
set_option linter.unusedSimpArgs false
open w3 l1 pt ca
theorem wf_e(e:ExpT):wfE e=(fH e.kids&&wfN e.kind e.n e.name.b e.op (e.kids.length:Int)):=by cases e;rw[wfE]
mutual
def nbE:ExpT->Prop
 |⟨_,_,nm,_,ks⟩=>nm.b.length<4611686018427387904/\lX ks
def lX:List ExpT->Prop
 | []=>True
 |e::l=>nbE e/\lX l
end
theorem nb_e{e:ExpT}(h:nbE e):e.name.b.length<4611686018427387904/\lX e.kids:=by cases e;rwa [nbE]at h
mutual
def nbS:StmT->Prop
 |⟨_,nm,to,_,a,v,ar,t,e⟩=>nm.b.length<4611686018427387904/\to.b.length<4611686018427387904/\nbE a/\nbE v/\lX ar/\nbSs t/\nbSs e
def nbSs:List StmT->Prop
 | []=>True
 |s::l=>nbS s/\nbSs l
end
def wfA(s:StmT):Bool:=fH s.args&&wfK s
theorem wf_s(s:StmT):wfS s=(wfA s&&fK s.thn&&fK s.els):=by cases s;rw[wfS];rfl
def anB(a:ArrT):Bool:=vnm a.name.b
def snB(s:Str):Bool:=vnm s.b
def wlF(f:FunT):List Str:=[f.name]++f.pars++f.locs
def NbP(p:PrgT):Prop:=(∀a∈p.arrs,a.name.b.length<4611686018427387904)/\∀f∈p.funs,f.name.b.length<4611686018427387904/\(∀s∈f.pars,s.b.length<4611686018427387904)/\(∀s∈f.locs,s.b.length<4611686018427387904)/\nbSs f.body/\nbE f.val
theorem wf_f(f:FunT):wfF f=((wlF f).all snB&&fK f.body&&wfE f.val):=rfl
end Go.Proofs.YtkpgbdkkgcdhmaaGreat.cb
