/-
Plain laws: what the functions compute answers as the statement says. No condition beyond those that each statement names.
-/
import Derived.Test.YtkpgbdkkgcdhmaaZNCA
noncomputable section
namespace Go.Proofs.Ytkpgbdkkgcdhmaa.bk
open Go.R w3 l1 pt ca
set_option linter.unusedVariables false
set_option linter.unusedSimpArgs false
mutual
def bkE:ExpT->Nat
 |⟨_,_,nm,_,ks⟩=>1+nm.b.length+dm ks
def dm:List ExpT->Nat
 | []=>0
 |e::l=>bkE e+dm l
end
mutual
def bkS:StmT->Nat
 |⟨_,nm,to,_,a,v,ar,t,e⟩=>1+nm.b.length+to.b.length+bkE a+bkE v+dm ar+bV t+bV e
def bV:List StmT->Nat
 | []=>0
 |s::l=>bkS s+bV l
end
def bkN:List Str->Nat
 | []=>0
 |s::l=>1+s.b.length+bkN l
def bkF(f:FunT):Nat:=1+f.name.b.length+bkN f.pars+bkN f.locs+bV f.body+bkE f.val
def kO:List FunT->Nat
 | []=>0
 |f::l=>bkF f+kO l
def bkA(a:ArrT):Nat:=1+a.name.b.length
def iD:List ArrT->Nat
 | []=>0
 |a::l=>bkA a+iD l
def bkP(p:PrgT):Nat:=iD p.arrs+kO p.funs
theorem bk_e(e:ExpT):bkE e=1+e.name.b.length+dm e.kids:=by cases e;rw[bkE]
theorem bk_s(s:StmT):bkS s=1+s.name.b.length+s.to.b.length+bkE s.at_+bkE s.val+dm s.args+bV s.thn+bV s.els:=by cases s;rw[bkS]
theorem bkE_pos(e:ExpT):1<=bkE e:=by rw[bk_e];omega
theorem bkS_pos(s:StmT):1<=bkS s:=by rw[bk_s];omega
theorem jG: ∀l:List ExpT,l.length<=dm l
 | []=>a0p _
 |e::l=>by rw[dm,a01];have:=jG l;have:=bkE_pos e;omega
theorem dF: ∀l:List StmT,l.length<=bV l
 | []=>a0p _
 |e::l=>by rw[bV,a01];have:=dF l;have:=bkS_pos e;omega
theorem cM: ∀l:List Str,l.length<=bkN l
 | []=>a0p _
 |e::l=>by rw[bkN,a01];have:=cM l;omega
theorem iC: ∀l:List FunT,l.length<=kO l
 | []=>a0p _
 |e::l=>by rw[kO,a01];have:=iC l;unfold bkF;omega
theorem mJ: ∀l:List ArrT,l.length<=iD l
 | []=>a0p _
 |e::l=>by rw[iD,a01];have:=mJ l;unfold bkA;omega
theorem bg: ∀l m:List ExpT,dm (l++m)=dm l+dm m
 | [],m=>by rw[a0e,dm,a0G]
 |e::l,m=>by rw[a0x,dm,dm,bg l m,a0P]
theorem be: ∀l m:List StmT,bV (l++m)=bV l+bV m
 | [],m=>by rw[a0e,bV,a0G]
 |e::l,m=>by rw[a0x,bV,bV,be l m,a0P]
theorem bkN_app: ∀l m:List Str,bkN (l++m)=bkN l+bkN m
 | [],m=>by rw[a0e,bkN,a0G]
 |e::l,m=>by rw[a0x,bkN,bkN,bkN_app l m];omega
theorem bkFs_app: ∀l m:List FunT,kO (l++m)=kO l+kO m
 | [],m=>by rw[a0e,kO,a0G]
 |e::l,m=>by rw[a0x,kO,kO,bkFs_app l m,a0P]
theorem bkAs_app: ∀l m:List ArrT,iD (l++m)=iD l+iD m
 | [],m=>by rw[a0e,iD,a0G]
 |e::l,m=>by rw[a0x,iD,iD,bkAs_app l m,a0P]
theorem bkEs_at: ∀{l:List ExpT} {i:Nat},i<l.length->bkE (l.getD i default)<=dm l
 |e::l,0,_=>by rw[dm];show bkE e<=_;omega
 |e::l,i+1,h=>by rw[dm];have:=bkEs_at (l:=l) (i:=i) (by simpa using h);show bkE (l.getD i default)<=_;omega
theorem kC: ∀{l:List StmT} {i:Nat},i<l.length->bkS (l.getD i default)<=bV l
 |e::l,0,_=>by rw[bV];show bkS e<=_;omega
 |e::l,i+1,h=>by rw[bV];have:=kC (l:=l) (i:=i) (by simpa using h);show bkS (l.getD i default)<=_;omega
theorem ed{x:ExpT}{k:Nat}: ∀{l:List ExpT} {i:Nat},i<l.length->bkE x<=bkE (l.getD i default)+k->dm (l.set i x)<=dm l+k
 |e::l,0,_,h=>by rw[List.set_cons_zero,dm,dm];have h:bkE x<=bkE e+k:=h;omega
 |e::l,i+1,hi,h=>by rw[a1K,dm,dm];have:=ed (l:=l) (i:=i) (by simpa using hi) h;omega
theorem bU{x:StmT}{k:Nat}: ∀{l:List StmT} {i:Nat},i<l.length->bkS x<=bkS (l.getD i default)+k->bV (l.set i x)<=bV l+k
 |e::l,0,_,h=>by rw[List.set_cons_zero,bV,bV];have h:bkS x<=bkS e+k:=h;omega
 |e::l,i+1,hi,h=>by rw[a1K,bV,bV];have:=bU (l:=l) (i:=i) (by simpa using hi) h;omega
theorem fU{l:List Str}{k m:Nat}(h: ∀s∈l,s.b.length<=m):(l.getD k default).b.length<=m:=by
 rcases a0s k l.length with q|q
 ·exact h _ (i6 q)
 rw[dD q];exact a0p _
end Go.Proofs.Ytkpgbdkkgcdhmaa.bk
