/-
The check of the reference: how large and how deep a program is, each function by a symbolic run. No condition but that the program has less than 2^62 parts.
-/
import Derived.Test.YtkpgbdkkgcdhmaaZNPT
noncomputable section
namespace Go.Proofs.Ytkpgbdkkgcdhmaa.ca
open Go.R
set_option maxRecDepth 10000
set_option linter.unusedVariables false
set_option linter.unusedSimpArgs false
open w3 l1 pt
instance :DecidableEq Str:=fun a b=>decidable_of_iff (a.b=b.b) ⟨fun h=>by cases a;cases b;simp_all,fun h=>by rw[h]⟩
mutual
def ndE:ExpT->Nat
 |⟨_,_,_,_,ks⟩=>1+ndEs ks
def ndEs:List ExpT->Nat
 | []=>0
 |e::l=>ndE e+ndEs l
end
mutual
def ndS:StmT->Nat
 |⟨_,_,_,_,a,v,ar,t,e⟩=>1+ndE a+ndE v+ndEs ar+ka t+ka e
def ka:List StmT->Nat
 | []=>0
 |s::l=>ndS s+ka l
end
mutual
def dpE:ExpT->Nat
 |⟨_,_,_,_,ks⟩=>dpEs ks
def dpEs:List ExpT->Nat
 | []=>0
 |e::l=>max (1+dpE e) (dpEs l)
end
mutual
def nS:StmT->Nat
 |⟨_,_,_,_,_,_,_,t,e⟩=>1+nSs t+nSs e
def nSs:List StmT->Nat
 | []=>0
 |s::l=>nS s+nSs l
end
mutual
def wS:StmT->Nat
 |⟨k,_,_,_,_,_,_,t,e⟩=>(if k=4 then 1 else 0)+wSs t+wSs e
def wSs:List StmT->Nat
 | []=>0
 |s::l=>wS s+wSs l
end
mutual
def dS:StmT->Nat->Nat
 |⟨_,_,_,_,_,_,_,t,e⟩,d=>max d (max (dSs t (d+1)) (dSs e (d+1)))
def dSs:List StmT->Nat->Nat
 | [],_=>0
 |s::l,d=>max (dS s d) (dSs l d)
end
mutual
def tdS:StmT->Bool
 |⟨_,_,_,_,a,v,ar,t,e⟩=>decide (20<dpE a)||decide (20<dpE v)||tdSs t||tdSs e||ar.any fun x=>decide (20<dpE x)
def tdSs:List StmT->Bool
 | []=>false
 |s::l=>tdS s||tdSs l
end
def inNm(s:List UInt8):Bool:=eS (s.getD 0 0)&&s.all dP&&decide (1<=s.length)&&decide (s.length<=16)
def vnm(s:List UInt8):Bool:=inNm s&& !resV s
def binO(o:Int):Bool:=decide (4<=o)&&decide (o<=18)
def wfN(k n:Int)(nm:List UInt8)(o c:Int):Bool:=
 if k=1 then(((c==0)&&(nm==[]))&&(o==0))
 else if k=2 then((((c==0)&&(n==0))&&(o==0))&&vnm nm)
 else if k=3 then((((c==1)&&(n==0))&&(o==0))&&vnm nm)
 else if k=4 then(((n==0)&&(nm==[]))&&(((c==2)&&binO o)||((c==1)&&((o==20)||(o==21)))))
 else if k=5 then((((c==3)&&(n==0))&&(nm==[]))&&(o==0))
 else false
mutual
def wfE:ExpT->Bool
 |⟨k,n,nm,o,ks⟩=>wfEs ks&&wfN k n nm.b o (ks.length:Int)
def wfEs:List ExpT->Bool
 | []=>true
 |e::l=>wfE e&&wfEs l
end
def isZ(e:ExpT):Bool:=(((((e.kind==0)&&(e.n==0))&&(e.name.b==[]))&&(e.op==0))&&((e.kids.length:Int)==0))
def onV(s:StmT):Bool:=(((((s.name.b==[])&&(s.to.b==[]))&&(s.n==0))&&isZ s.at_)&&((s.args.length:Int)==0))
def flS(s:StmT):Bool:=((s.thn.length:Int)==0)&&((s.els.length:Int)==0)
def wfK(s:StmT):Bool:=
 if s.kind=1 then((((((flS s&&vnm s.name.b)&&(s.to.b==[]))&&(s.n==0))&&isZ s.at_)&&((s.args.length:Int)==0))&&wfE s.val)
 else if s.kind=2 then((((((flS s&&vnm s.name.b)&&(s.to.b==[]))&&(s.n==0))&&wfE s.at_)&&((s.args.length:Int)==0))&&wfE s.val)
 else if s.kind=3 then(onV s&&wfE s.val)
 else if s.kind=4 then((onV s&&wfE s.val)&&((s.els.length:Int)==0))
 else if s.kind=5 then((flS s&&onV s)&&wfE s.val)
 else if s.kind=6 then(((((flS s&&vnm s.name.b)&&vnm s.to.b)&&(s.n==0))&&isZ s.at_)&&isZ s.val)
 else if s.kind=7 then(((((((flS s&&(s.name.b==[]))&&(s.to.b==[]))&&decide (0<=s.n))&&decide (s.n<=1000000))&&isZ s.at_)&&isZ s.val)&&((s.args.length:Int)==0))
 else false
mutual
def wfS:StmT->Bool
 |⟨k,nm,to,n,a,v,ar,t,e⟩=>wfEs ar&&wfK ⟨k,nm,to,n,a,v,ar,t,e⟩&&kT t&&kT e
def kT:List StmT->Bool
 | []=>true
 |s::l=>wfS s&&kT l
end
def dpG:List FunT->Bool
 | []=>false
 |f::l=>(decide (6<f.pars.length)||decide (8<f.locs.length)||decide (200<nSs f.body)||decide (16<wSs f.body)||decide (20<dSs f.body 0)||tdSs f.body||decide (20<dpE f.val))||dpG l
def exL(p:PrgT):Bool:=decide (4<p.arrs.length)||decide (8<p.funs.length)||(p.arrs.any fun a=>decide (a.len<1)||decide (16<a.len))||dpG p.funs
def wfF(f:FunT):Bool:=(([f.name]++f.pars++f.locs).all fun s=>vnm s.b)&&kT f.body&&wfE f.val
def wfP(p:PrgT):Bool:=(p.arrs.all fun a=>vnm a.name.b)&&p.funs.all wfF
def lq(l:List Str)(s:List UInt8):Bool:=l.any fun x=>x.b==s
def dupN:List Str->List Str->Bool
 |_,[]=>false
 |seen,s::l=>lq seen s.b||dupN (seen++[s]) l
def dupF(A:List Str):List Str->List FunT->Bool
 |_,[]=>false
 |fs,f::l=>lq fs f.name.b||dupN A (f.pars++f.locs)||dupF A (fs++[f.name]) l
def dupP(p:PrgT):Bool:=dupN [] (p.arrs.map (·.name))||dupF (p.arrs.map (·.name)) [] p.funs
mutual
def dfE(vs aa:List Str):ExpT->Bool
 |⟨k,_,nm,_,ks⟩=>dfEs vs aa ks&&((k !=2)||lq vs nm.b)&&((k !=3)||lq aa nm.b)
def dfEs(vs aa:List Str):List ExpT->Bool
 | []=>true
 |e::l=>dfE vs aa e&&dfEs vs aa l
end
def ffN(s:List UInt8):List FunT->Nat->Int
 | [],_=> -1
 |f::l,i=>if f.name.b=s then(i:Int) else ffN s l (i+1)
def ffP(p:PrgT)(s:List UInt8):Int:=ffN s p.funs 0
def swK(vs aa:List Str)(p:PrgT)(s:StmT):Bool:=if s.kind=1 then lq vs s.name.b else if s.kind=6 then(lq vs s.name.b&&decide (0<=ffP p s.to.b)) else if s.kind=2 then lq aa s.name.b else true
def dfK(vs aa:List Str)(p:PrgT)(s:StmT):Bool:=dfEs vs aa s.args&&dfE vs aa s.at_&&dfE vs aa s.val&&swK vs aa p s
mutual
def dfS(vs aa:List Str)(p:PrgT):StmT->Bool
 |⟨k,nm,to,n,a,v,ar,t,e⟩=>dfK vs aa p ⟨k,nm,to,n,a,v,ar,t,e⟩&&dfSs vs aa p t&&dfSs vs aa p e
def dfSs(vs aa:List Str)(p:PrgT):List StmT->Bool
 | []=>true
 |s::l=>dfS vs aa p s&&dfSs vs aa p l
end
def arK(p:PrgT)(s:StmT):Bool:= !((s.kind==6)&&((s.args.length:Int) !=((p.funs.getD (ffP p s.to.b).toNat default).pars.length:Int)))
mutual
def arS(p:PrgT):StmT->Bool
 |⟨k,nm,to,n,a,v,ar,t,e⟩=>arK p ⟨k,nm,to,n,a,v,ar,t,e⟩&&arSs p t&&arSs p e
def arSs(p:PrgT):List StmT->Bool
 | []=>true
 |s::l=>arS p s&&arSs p l
end
def arN(p:PrgT):List Str:=p.arrs.map (·.name)
def dfF(p:PrgT)(f:FunT):Bool:=dfSs (f.pars++f.locs) (arN p) p f.body&&dfE (f.pars++f.locs) (arN p) f.val
def arF(p:PrgT)(f:FunT):Bool:=arSs p f.body
def chk(p:PrgT):Int:=
 if exL p=true then 6 else if wfP p=false then 2 else if dupP p=true then 4
 else if p.funs.all (dfF p)=false then 3
 else if p.funs.all (arF p)=false then 5 else 0
theorem aD(x:ExpT):(⟨x.kind,x.n,⟨x.name.b⟩,x.op,x.kids⟩:ExpT)=x:=by cases x;rfl
theorem drop_c{α:Type}{l:List α}{i:Nat}{d:α}(h:i<l.length):l.drop i=l.getD i d::l.drop (i+1):=by rw[a0W h,a0b,a09 h];rfl
theorem drop_e{α:Type}{l:List α}{i:Nat}(h:l.length<=i):l.drop i=[]:=a1f h
theorem nd_e(e:ExpT):ndE e=1+ndEs e.kids:=by cases e;rw[ndE]
theorem nd_len: ∀l:List ExpT,l.length<=ndEs l
 | []=>a0p _
 |e::l=>by have:=nd_len l;have:=nd_e e;rw[ndEs,a01];omega
theorem nd_at: ∀{l:List ExpT} {i:Nat},i<l.length->ndE (l.getD i default)<=ndEs l
 |e::l,0,_=>by rw[ndEs];exact Nat.le_add_right _ _
 |e::l,i+1,h=>by have:=nd_at (l:=l) (i:=i) (by simpa using h);rw[ndEs];exact a0a this (Nat.le_add_left _ _)
theorem dp_e(e:ExpT):dpE e=dpEs e.kids:=by cases e;rw[dpE]
theorem nd_mem: ∀{l:List ExpT} {x:ExpT},x∈l->ndE x<=ndEs l
 |e::l,x,h=>by
  rw[ndEs];rcases a0r.1 h with rfl|h
  ·omega
  have:=nd_mem h;omega
theorem exI{P:ExpT->Prop}(h: ∀e:ExpT,(∀x∈e.kids,P x)->P e): ∀(n:Nat) (e:ExpT),ndE e<=n->P e
 |0,e,q=>by rw[nd_e]at q;omega
 |n+1,e,q=>h e fun x A=>exI h n x (by have:=nd_mem A;rw[nd_e]at q;omega)
theorem ns_s(s:StmT):ndS s=1+ndE s.at_+ndE s.val+ndEs s.args+ka s.thn+ka s.els:=by cases s;rw[ndS]
theorem ns_len: ∀l:List StmT,l.length<=ka l
 | []=>a0p _
 |s::l=>by have:=ns_len l;have:=ns_s s;rw[ka,a01];omega
theorem ns_at: ∀{l:List StmT} {i:Nat},i<l.length->ndS (l.getD i default)<=ka l
 |e::l,0,_=>by rw[ka];exact Nat.le_add_right _ _
 |e::l,i+1,h=>by have:=ns_at (l:=l) (i:=i) (by simpa using h);rw[ka];exact a0a this (Nat.le_add_left _ _)
theorem n_s(s:StmT):nS s=1+nSs s.thn+nSs s.els:=by cases s;rw[nS]
theorem w_s(s:StmT):wS s=(if s.kind=4 then 1 else 0)+wSs s.thn+wSs s.els:=by cases s;rw[wS]
theorem ns_mem: ∀{l:List StmT} {x:StmT},x∈l->ndS x<=ka l
 |e::l,x,h=>by
  rw[ka];rcases a0r.1 h with rfl|h
  ·omega
  have:=ns_mem h;omega
theorem stI{P:StmT->Prop}(h: ∀s:StmT,(∀x∈s.thn,P x)->(∀x∈s.els,P x)->P s): ∀(n:Nat) (s:StmT),ndS s<=n->P s
 |0,s,q=>by rw[ns_s]at q;omega
 |n+1,s,q=>h s (fun x A=>stI h n x (by have:=ns_mem A;rw[ns_s]at q;omega)) fun x A=>stI h n x (by have:=ns_mem A;rw[ns_s]at q;omega)
theorem td_s(s:StmT):tdS s=(decide (20<dpE s.at_)||decide (20<dpE s.val)||tdSs s.thn||tdSs s.els||s.args.any fun x=>decide (20<dpE x)):=by cases s;rw[tdS]
def anD(l:List ExpT)(b:Bool):Bool:=(l.any fun x=>decide (20<dpE x))||b
def SmP(p:PrgT):Prop:=p.arrs.length<4611686018427387904/\p.funs.length<4611686018427387904/\∀f∈p.funs,f.pars.length<1000000000/\f.locs.length<1000000000/\ka f.body<4611686018427387904/\ndE f.val<4611686018427387904
theorem i6{α:Type} [Inhabited α]{l:List α}{i:Nat}(h:i<l.length):l.getD i default∈l:=by rw[a0b,a09 h];exact a1E h
def lnB(a:ArrT):Bool:=decide (a.len<1)||decide (16<a.len)
def dgB(f:FunT):Bool:=decide (6<f.pars.length)||decide (8<f.locs.length)||decide (200<nSs f.body)||decide (16<wSs f.body)||decide (20<dSs f.body 0)||tdSs f.body||decide (20<dpE f.val)
end Go.Proofs.Ytkpgbdkkgcdhmaa.ca
