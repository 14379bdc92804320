/-
The check of the reference: which programs a parser can give, each function by a symbolic run. No condition but that the program has less than 2^62 parts.
-/
import Derived.Test.YtkpgbdkkgcdhmaaZNCA
noncomputable section
namespace Go.Proofs.Ytkpgbdkkgcdhmaa.cb
open Go.R
set_option maxRecDepth 10000
set_option linter.unusedVariables false
set_option linter.unusedSimpArgs false
open w3 l1 pt ca
theorem jl{B:Base}{F:Fz}{L R:List Fp}{H:Heap}(hs:HS B F H L R){b:Nat}{cs:List Value}{w:Value}(t:TypeId)(i j:Nat)(A:aggOf Try.prog t=some false)(h:L[j]?=some [(b,.cells cs none false)])(E:cs[i]?=some w): ∀H,JJ B F L R H->LDv Try.prog H t (pT b i) w:=jl0 hs t i j A h E
theorem jn{B:Base}{F:Fz}{L R:List Fp}{H:Heap}(hs:HS B F H L R){b:Nat}{cs l:List Value}(t:TypeId)(i n j:Nat)(A:aggOf Try.prog t=some true)(U:cQ Try.prog t=some n)(h:L[j]?=some [(b,.cells cs none false)])(O:Nat.ble (i+n) cs.length=true)(E:dH (dT cs i) n=l): ∀H,JJ B F L R H->LDv Try.prog H t (pT b i) (.agg ⟨l⟩):=jn0 hs t i n j A U h O E
theorem wf_e(e:ExpT):wfE e=(wfEs e.kids&&wfN e.kind e.n e.name.b e.op (e.kids.length:Int)):=by cases e;rw[wfE]
mutual
def nbE:ExpT->Prop
 |⟨_,_,nm,_,ks⟩=>nm.b.length<4611686018427387904/\nbEs ks
def nbEs:List ExpT->Prop
 | []=>True
 |e::l=>nbE e/\nbEs l
end
theorem et_s(x:StmT):(⟨x.kind,⟨x.name.b⟩,⟨x.to.b⟩,x.n,x.at_,x.val,x.args,x.thn,x.els⟩:StmT)=x:=by cases x;rfl
mutual
def nbS:StmT->Prop
 |⟨_,nm,to,_,a,v,ar,t,e⟩=>nm.b.length<4611686018427387904/\to.b.length<4611686018427387904/\nbE a/\nbE v/\nbEs ar/\nbSs t/\nbSs e
def nbSs:List StmT->Prop
 | []=>True
 |s::l=>nbS s/\nbSs l
end
def wfA(s:StmT):Bool:=wfEs s.args&&wfK s
theorem wf_s(s:StmT):wfS s=(wfA s&&kT s.thn&&kT s.els):=by cases s;rw[wfS];rfl
def anB(a:ArrT):Bool:=vnm a.name.b
def snB(s:Str):Bool:=vnm s.b
def wlF(f:FunT):List Str:=[f.name]++f.pars++f.locs
def NbP(p:PrgT):Prop:=(∀a∈p.arrs,a.name.b.length<4611686018427387904)/\∀f∈p.funs,f.name.b.length<4611686018427387904/\(∀s∈f.pars,s.b.length<4611686018427387904)/\(∀s∈f.locs,s.b.length<4611686018427387904)/\nbSs f.body/\nbE f.val
theorem wf_f(f:FunT):wfF f=((wlF f).all snB&&kT f.body&&wfE f.val):=rfl
end Go.Proofs.Ytkpgbdkkgcdhmaa.cb
