/-
Plain laws: what the functions compute answers as the statement says. No condition beyond those that each statement names.
-/
import Derived.Test.YtkpgbdkkgcdhmaaGreatZPCA
noncomputable section
namespace Go.Proofs.YtkpgbdkkgcdhmaaGreat.bk
open Go.R w3 l1 pt ca
set_option linter.unusedVariables false
set_option linter.unusedSimpArgs false
mutual
def bkE:ExpT->Nat
 |⟨_,_,nm,_,ks⟩=>1+nm.b.length+dv ks
def dv:List ExpT->Nat
 | []=>0
 |e::l=>bkE e+dv l
end
mutual
def bkS:StmT->Nat
 |⟨_,nm,to,_,a,v,ar,t,e⟩=>1+nm.b.length+to.b.length+bkE a+bkE v+dv ar+bX t+bX e
def bX:List StmT->Nat
 | []=>0
 |s::l=>bkS s+bX l
end
def bkN:List Str->Nat
 | []=>0
 |s::l=>1+s.b.length+bkN l
def bkF(f:FunT):Nat:=1+f.name.b.length+bkN f.pars+bkN f.locs+bX f.body+bkE f.val
def lP:List FunT->Nat
 | []=>0
 |f::l=>bkF f+lP l
def bkA(a:ArrT):Nat:=1+a.name.b.length
def i8:List ArrT->Nat
 | []=>0
 |a::l=>bkA a+i8 l
def bkP(p:PrgT):Nat:=i8 p.arrs+lP p.funs
theorem bk_e(e:ExpT):bkE e=1+e.name.b.length+dv e.kids:=by cases e;rw[bkE]
theorem bk_s(s:StmT):bkS s=1+s.name.b.length+s.to.b.length+bkE s.at_+bkE s.val+dv s.args+bX s.thn+bX s.els:=by cases s;rw[bkS]
theorem bkE_pos(e:ExpT):1<=bkE e:=by rw[bk_e];omega
theorem bkS_pos(s:StmT):1<=bkS s:=by rw[bk_s];omega
theorem ko: ∀l:List ExpT,l.length<=dv l
 | []=>a0r _
 |e::l=>by rw[dv,a01];have:=ko l;have:=bkE_pos e;omega
theorem dI: ∀l:List StmT,l.length<=bX l
 | []=>a0r _
 |e::l=>by rw[bX,a01];have:=dI l;have:=bkS_pos e;omega
theorem cR: ∀l:List Str,l.length<=bkN l
 | []=>a0r _
 |e::l=>by rw[bkN,a01];have:=cR l;omega
theorem i7: ∀l:List FunT,l.length<=lP l
 | []=>a0r _
 |e::l=>by rw[lP,a01];have:=i7 l;unfold bkF;omega
theorem nI: ∀l:List ArrT,l.length<=i8 l
 | []=>a0r _
 |e::l=>by rw[i8,a01];have:=nI l;unfold bkA;omega
theorem eZ: ∀l m:List ExpT,dv (l++m)=dv l+dv m
 | [],m=>by rw[a0i,dv,a0H]
 |e::l,m=>by rw[a0w,dv,dv,eZ l m,a0Q]
theorem eY: ∀l m:List StmT,bX (l++m)=bX l+bX m
 | [],m=>by rw[a0i,bX,a0H]
 |e::l,m=>by rw[a0w,bX,bX,eY l m,a0Q]
theorem bkN_app: ∀l m:List Str,bkN (l++m)=bkN l+bkN m
 | [],m=>by rw[a0i,bkN,a0H]
 |e::l,m=>by rw[a0w,bkN,bkN,bkN_app l m];omega
theorem bkFs_app: ∀l m:List FunT,lP (l++m)=lP l+lP m
 | [],m=>by rw[a0i,lP,a0H]
 |e::l,m=>by rw[a0w,lP,lP,bkFs_app l m,a0Q]
theorem bkAs_app: ∀l m:List ArrT,i8 (l++m)=i8 l+i8 m
 | [],m=>by rw[a0i,i8,a0H]
 |e::l,m=>by rw[a0w,i8,i8,bkAs_app l m,a0Q]
theorem bkEs_at: ∀{l:List ExpT} {i:Nat},i<l.length->bkE (l.getD i default)<=dv l
 |e::l,0,_=>by rw[dv];show bkE e<=_;omega
 |e::l,i+1,h=>by rw[dv];have:=bkEs_at (l:=l) (i:=i) (by simpa using h);show bkE (l.getD i default)<=_;omega
theorem lA: ∀{l:List StmT} {i:Nat},i<l.length->bkS (l.getD i default)<=bX l
 |e::l,0,_=>by rw[bX];show bkS e<=_;omega
 |e::l,i+1,h=>by rw[bX];have:=lA (l:=l) (i:=i) (by simpa using h);show bkS (l.getD i default)<=_;omega
theorem bkEs_set{x:ExpT}{k:Nat}: ∀{l:List ExpT} {i:Nat},i<l.length->bkE x<=bkE (l.getD i default)+k->dv (l.set i x)<=dv l+k
 |e::l,0,_,h=>by rw[List.set_cons_zero,dv,dv];have h:bkE x<=bkE e+k:=h;omega
 |e::l,i+1,hi,h=>by rw[a1J,dv,dv];have:=bkEs_set (l:=l) (i:=i) (by simpa using hi) h;omega
theorem kj{x:StmT}{k:Nat}: ∀{l:List StmT} {i:Nat},i<l.length->bkS x<=bkS (l.getD i default)+k->bX (l.set i x)<=bX l+k
 |e::l,0,_,h=>by rw[List.set_cons_zero,bX,bX];have h:bkS x<=bkS e+k:=h;omega
 |e::l,i+1,hi,h=>by rw[a1J,bX,bX];have:=kj (l:=l) (i:=i) (by simpa using hi) h;omega
theorem gh{l:List Str}{k m:Nat}(h: ∀s∈l,s.b.length<=m):(l.getD k default).b.length<=m:=by
 rcases a0s k l.length with q|q
 ·exact h _ (dO q)
 rw[dG q];exact a0r _
end Go.Proofs.YtkpgbdkkgcdhmaaGreat.bk
