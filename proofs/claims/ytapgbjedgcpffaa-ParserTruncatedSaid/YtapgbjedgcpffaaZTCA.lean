/-
The check of the reference: how large and how deep a program is, each function by a symbolic run. No condition but that the program has less than 2^62 parts.
-/
import Derived.Test.YtapgbjedgcpffaaZTL1
import Derived.Test.YtapgbjedgcpffaaZTPT
noncomputable section
namespace Go.Proofs.Ytapgbjedgcpffaa.ca
open Go.R
set_option maxRecDepth 10000
set_option linter.unusedVariables false
set_option linter.unusedSimpArgs false
variable (ex:FuncId) {F:Fz} {H:Heap} {R:List Fp}
open w3 l1 pt
instance :DecidableEq Str:=fun a b=>decidable_of_iff (a.b=b.b) ⟨fun h=>by cases a;cases b;simp_all,fun h=>by rw[h]⟩
mutual
def ndE:ExpT->Nat
 |⟨_,_,_,_,ks⟩=>1+gY ks
def gY:List ExpT->Nat
 | []=>0
 |e::l=>ndE e+gY l
end
mutual
def ndS:StmT->Nat
 |⟨_,_,_,_,a,v,ar,t,e⟩=>1+ndE a+ndE v+gY ar+fg t+fg e
def fg:List StmT->Nat
 | []=>0
 |s::l=>ndS s+fg l
end
mutual
def dpE:ExpT->Nat
 |⟨_,_,_,_,ks⟩=>jX ks
def jX:List ExpT->Nat
 | []=>0
 |e::l=>max (1+dpE e) (jX l)
end
mutual
def nS:StmT->Nat
 |⟨_,_,_,_,_,_,_,t,e⟩=>1+nSs t+nSs e
def nSs:List StmT->Nat
 | []=>0
 |s::l=>nS s+nSs l
end
mutual
def wS:StmT->Nat
 |⟨k,_,_,_,_,_,_,t,e⟩=>(if k=4 then 1 else 0)+wSs t+wSs e
def wSs:List StmT->Nat
 | []=>0
 |s::l=>wS s+wSs l
end
mutual
def dS:StmT->Nat->Nat
 |⟨_,_,_,_,_,_,_,t,e⟩,d=>max d (max (dSs t (d+1)) (dSs e (d+1)))
def dSs:List StmT->Nat->Nat
 | [],_=>0
 |s::l,d=>max (dS s d) (dSs l d)
end
mutual
def tdS:StmT->Bool
 |⟨_,_,_,_,a,v,ar,t,e⟩=>decide (20<dpE a)||decide (20<dpE v)||dl t||dl e||ar.any fun x=>decide (20<dpE x)
def dl:List StmT->Bool
 | []=>false
 |s::l=>tdS s||dl l
end
def inNm(s:List UInt8):Bool:=bV (s.getD 0 0)&&s.all bJ&&decide (1<=s.length)&&decide (s.length<=16)
def vnm(s:List UInt8):Bool:=inNm s&& !gv s
def binO(o:Int):Bool:=decide (4<=o)&&decide (o<=18)
def wfN(k n:Int)(E:List UInt8)(o c:Int):Bool:=
 if k=1 then(((c==0)&&(E==[]))&&(o==0))
 else if k=2 then((((c==0)&&(n==0))&&(o==0))&&vnm E)
 else if k=3 then((((c==1)&&(n==0))&&(o==0))&&vnm E)
 else if k=4 then(((n==0)&&(E==[]))&&(((c==2)&&binO o)||((c==1)&&((o==20)||(o==21)))))
 else if k=5 then((((c==3)&&(n==0))&&(E==[]))&&(o==0))
 else false
mutual
def wfE:ExpT->Bool
 |⟨k,n,nm,o,ks⟩=>eA ks&&wfN k n nm.b o (ks.length:Int)
def eA:List ExpT->Bool
 | []=>true
 |e::l=>wfE e&&eA l
end
def isZ(e:ExpT):Bool:=(((((e.kind==0)&&(e.n==0))&&(e.name.b==[]))&&(e.op==0))&&((e.kids.length:Int)==0))
def onV(s:StmT):Bool:=(((((s.name.b==[])&&(s.to.b==[]))&&(s.n==0))&&isZ s.at_)&&((s.args.length:Int)==0))
def flS(s:StmT):Bool:=((s.thn.length:Int)==0)&&((s.els.length:Int)==0)
def wfK(s:StmT):Bool:=
 if s.kind=1 then((((((flS s&&vnm s.name.b)&&(s.to.b==[]))&&(s.n==0))&&isZ s.at_)&&((s.args.length:Int)==0))&&wfE s.val)
 else if s.kind=2 then((((((flS s&&vnm s.name.b)&&(s.to.b==[]))&&(s.n==0))&&wfE s.at_)&&((s.args.length:Int)==0))&&wfE s.val)
 else if s.kind=3 then(onV s&&wfE s.val)
 else if s.kind=4 then((onV s&&wfE s.val)&&((s.els.length:Int)==0))
 else if s.kind=5 then((flS s&&onV s)&&wfE s.val)
 else if s.kind=6 then(((((flS s&&vnm s.name.b)&&vnm s.to.b)&&(s.n==0))&&isZ s.at_)&&isZ s.val)
 else if s.kind=7 then(((((((flS s&&(s.name.b==[]))&&(s.to.b==[]))&&decide (0<=s.n))&&decide (s.n<=1000000))&&isZ s.at_)&&isZ s.val)&&((s.args.length:Int)==0))
 else false
mutual
def wfS:StmT->Bool
 |⟨k,nm,to,n,a,v,ar,t,e⟩=>eA ar&&wfK ⟨k,nm,to,n,a,v,ar,t,e⟩&&cP t&&cP e
def cP:List StmT->Bool
 | []=>true
 |s::l=>wfS s&&cP l
end
def dpG:List FunT->Bool
 | []=>false
 |f::l=>(decide (6<f.pars.length)||decide (8<f.locs.length)||decide (200<nSs f.body)||decide (16<wSs f.body)||decide (20<dSs f.body 0)||dl f.body||decide (20<dpE f.val))||dpG l
def exL(p:PrgT):Bool:=decide (4<p.arrs.length)||decide (8<p.funs.length)||(p.arrs.any fun a=>decide (a.len<1)||decide (16<a.len))||dpG p.funs
def wfF(f:FunT):Bool:=(([f.name]++f.pars++f.locs).all fun s=>vnm s.b)&&cP f.body&&wfE f.val
def wfP(p:PrgT):Bool:=(p.arrs.all fun a=>vnm a.name.b)&&p.funs.all wfF
def dK(l:List Str)(s:List UInt8):Bool:=l.any fun x=>x.b==s
def jB:List Str->List Str->Bool
 |_,[]=>false
 |seen,s::l=>dK seen s.b||jB (seen++[s]) l
def dupF(E:List Str):List Str->List FunT->Bool
 |_,[]=>false
 |fs,f::l=>dK fs f.name.b||jB E (f.pars++f.locs)||dupF E (fs++[f.name]) l
def dupP(p:PrgT):Bool:=jB [] (p.arrs.map (·.name))||dupF (p.arrs.map (·.name)) [] p.funs
mutual
def dfE(vs aa:List Str):ExpT->Bool
 |⟨k,_,nm,_,ks⟩=>fM vs aa ks&&((k !=2)||dK vs nm.b)&&((k !=3)||dK aa nm.b)
def fM(vs aa:List Str):List ExpT->Bool
 | []=>true
 |e::l=>dfE vs aa e&&fM vs aa l
end
def ffN(s:List UInt8):List FunT->Nat->Int
 | [],_=> -1
 |f::l,i=>if f.name.b=s then(i:Int) else ffN s l (i+1)
def ffP(p:PrgT)(s:List UInt8):Int:=ffN s p.funs 0
def swK(vs aa:List Str)(p:PrgT)(s:StmT):Bool:=if s.kind=1 then dK vs s.name.b else if s.kind=6 then(dK vs s.name.b&&decide (0<=ffP p s.to.b)) else if s.kind=2 then dK aa s.name.b else true
def dfK(vs aa:List Str)(p:PrgT)(s:StmT):Bool:=fM vs aa s.args&&dfE vs aa s.at_&&dfE vs aa s.val&&swK vs aa p s
mutual
def dfS(vs aa:List Str)(p:PrgT):StmT->Bool
 |⟨k,nm,to,n,a,v,ar,t,e⟩=>dfK vs aa p ⟨k,nm,to,n,a,v,ar,t,e⟩&&jD vs aa p t&&jD vs aa p e
def jD(vs aa:List Str)(p:PrgT):List StmT->Bool
 | []=>true
 |s::l=>dfS vs aa p s&&jD vs aa p l
end
def arK(p:PrgT)(s:StmT):Bool:= !((s.kind==6)&&((s.args.length:Int) !=((p.funs.getD (ffP p s.to.b).toNat default).pars.length:Int)))
mutual
def arS(p:PrgT):StmT->Bool
 |⟨k,nm,to,n,a,v,ar,t,e⟩=>arK p ⟨k,nm,to,n,a,v,ar,t,e⟩&&arSs p t&&arSs p e
def arSs(p:PrgT):List StmT->Bool
 | []=>true
 |s::l=>arS p s&&arSs p l
end
def arN(p:PrgT):List Str:=p.arrs.map (·.name)
def dfF(p:PrgT)(f:FunT):Bool:=jD (f.pars++f.locs) (arN p) p f.body&&dfE (f.pars++f.locs) (arN p) f.val
def arF(p:PrgT)(f:FunT):Bool:=arSs p f.body
def chk(p:PrgT):Int:=
 if exL p=true then 6 else if wfP p=false then 2 else if dupP p=true then 4
 else if p.funs.all (dfF p)=false then 3
 else if p.funs.all (arF p)=false then 5 else 0
theorem bc(x:ExpT):(⟨x.kind,x.n,⟨x.name.b⟩,x.op,x.kids⟩:ExpT)=x:=by cases x;rfl
theorem bW{α:Type}{l:List α}{i:Nat}{d:α}(h:i<l.length):l.drop i=l.getD i d::l.drop (i+1):=by rw[a0K h,a0c,a0b h];rfl
theorem dL{α:Type}{l:List α}{i:Nat}(h:l.length<=i):l.drop i=[]:=a0O h
theorem nd_e(e:ExpT):ndE e=1+gY e.kids:=by cases e;rw[ndE]
theorem jR: ∀l:List ExpT,l.length<=gY l
 | []=>a0n _
 |e::l=>by have:=jR l;have:=nd_e e;rw[gY,a02];omega
theorem mS: ∀{l:List ExpT} {i:Nat},i<l.length->ndE (l.getD i default)<=gY l
 |e::l,0,_=>by rw[gY];exact Nat.le_add_right _ _
 |e::l,i+1,h=>by have:=mS (l:=l) (i:=i) (by simpa using h);rw[gY];exact a05 this (Nat.le_add_left _ _)
theorem dp_e(e:ExpT):dpE e=jX e.kids:=by cases e;rw[dpE]
theorem nd_mem: ∀{l:List ExpT} {x:ExpT},x∈l->ndE x<=gY l
 |e::l,x,h=>by
  rw[gY];rcases a0m.1 h with rfl|h
  ·omega
  have:=nd_mem h;omega
theorem exI{P:ExpT->Prop}(h: ∀e:ExpT,(∀x∈e.kids,P x)->P e): ∀(n:Nat) (e:ExpT),ndE e<=n->P e
 |0,e,q=>by rw[nd_e]at q;omega
 |n+1,e,q=>h e fun x E=>exI h n x (by have:=nd_mem E;rw[nd_e]at q;omega)
theorem dps_le: ∀{l:List ExpT},(∀x∈l,dpE x<ndE x)->jX l<=gY l
 | [],_=>a0n _
 |e::l,h=>by
  rw[jX,gY];have:=h e (a0r ..);have:=dps_le (l:=l) fun x E=>h x (a0j _ E)
  omega
theorem dp_le(e:ExpT):dpE e<ndE e:=exI (P:=fun e=>dpE e<ndE e) (fun e h=>by rw[dp_e,nd_e];have:=dps_le h;omega) _ e (a07 _)
theorem dp_drop{l:List ExpT}{i:Nat}(h:i<l.length):jX (l.drop i)=max (1+dpE (l.getD i default)) (jX (l.drop (i+1))):=by rw[bW (d:=default) h,jX]
theorem dp_end{l:List ExpT}{i:Nat}(h:l.length<=i):jX (l.drop i)=0:=by rw[dL h,jX]
theorem ns_s(s:StmT):ndS s=1+ndE s.at_+ndE s.val+gY s.args+fg s.thn+fg s.els:=by cases s;rw[ndS]
theorem l4: ∀l:List StmT,l.length<=fg l
 | []=>a0n _
 |s::l=>by have:=l4 l;have:=ns_s s;rw[fg,a02];omega
theorem ns_at: ∀{l:List StmT} {i:Nat},i<l.length->ndS (l.getD i default)<=fg l
 |e::l,0,_=>by rw[fg];exact Nat.le_add_right _ _
 |e::l,i+1,h=>by have:=ns_at (l:=l) (i:=i) (by simpa using h);rw[fg];exact a05 this (Nat.le_add_left _ _)
theorem n_s(s:StmT):nS s=1+nSs s.thn+nSs s.els:=by cases s;rw[nS]
theorem w_s(s:StmT):wS s=(if s.kind=4 then 1 else 0)+wSs s.thn+wSs s.els:=by cases s;rw[wS]
theorem d_s(s:StmT)(d:Nat):dS s d=max d (max (dSs s.thn (d+1)) (dSs s.els (d+1))):=by cases s;rw[dS]
theorem ns_mem: ∀{l:List StmT} {x:StmT},x∈l->ndS x<=fg l
 |e::l,x,h=>by
  rw[fg];rcases a0m.1 h with rfl|h
  ·omega
  have:=ns_mem h;omega
theorem stI{P:StmT->Prop}(h: ∀s:StmT,(∀x∈s.thn,P x)->(∀x∈s.els,P x)->P s): ∀(n:Nat) (s:StmT),ndS s<=n->P s
 |0,s,q=>by rw[ns_s]at q;omega
 |n+1,s,q=>h s (fun x E=>stI h n x (by have:=ns_mem E;rw[ns_s]at q;omega)) fun x E=>stI h n x (by have:=ns_mem E;rw[ns_s]at q;omega)
theorem nwd_l: ∀{l:List StmT},(∀s∈l,nS s<=ndS s/\wS s<=ndS s/\∀d,dS s d<=d+ndS s)->nSs l<=fg l/\wSs l<=fg l/\∀d,dSs l d<=d+fg l
 | [],_=>⟨a07 _,a07 _,fun _=>a0n _⟩
 |s::l,h=>by
  obtain⟨T,U,E⟩:=h s (a0r ..);obtain⟨Y,Z,O⟩:=nwd_l (l:=l) fun x hx=>h x (a0j _ hx)
  rw[nSs,wSs,fg];refine⟨by omega,by omega,fun d=>?_⟩;rw[dSs];have:=E d;have:=O d;omega
theorem nwd_s(s:StmT):nS s<=ndS s/\wS s<=ndS s/\∀d,dS s d<=d+ndS s:=stI (P:=fun s=>nS s<=ndS s/\wS s<=ndS s/\∀d,dS s d<=d+ndS s) (fun s T U=>by
  obtain⟨Y,Z,E⟩:=nwd_l T;obtain⟨b1,b2,O⟩:=nwd_l U;rw[n_s,w_s,ns_s];refine⟨by omega,by split<;>omega,fun d=>?_⟩;rw[d_s];have:=E (d+1);have:=O (d+1);omega) _ s (a07 _)
theorem n_le(l:List StmT):nSs l<=fg l:=(nwd_l fun s _=>nwd_s s).1
theorem w_le(l:List StmT):wSs l<=fg l:=(nwd_l fun s _=>nwd_s s).2.1
theorem d_le(l:List StmT)(d:Nat):dSs l d<=d+fg l:=(nwd_l fun s _=>nwd_s s).2.2 d
theorem n_drop{l:List StmT}{i:Nat}(h:i<l.length):nSs (l.drop i)=1+nSs (l.getD i default).thn+nSs (l.getD i default).els+nSs (l.drop (i+1)):=by rw[bW (d:=default) h,nSs,n_s]
theorem w_drop{l:List StmT}{i:Nat}(h:i<l.length):wSs (l.drop i)=(if(l.getD i default).kind=4 then 1 else 0)+wSs (l.getD i default).thn+wSs (l.getD i default).els+wSs (l.drop (i+1)):=by rw[bW (d:=default) h,wSs,w_s]
theorem d_drop{l:List StmT}{i d:Nat}(h:i<l.length):dSs (l.drop i) d=max (max d (max (dSs (l.getD i default).thn (d+1)) (dSs (l.getD i default).els (d+1)))) (dSs (l.drop (i+1)) d):=by rw[bW (d:=default) h,dSs,d_s]
theorem td_s(s:StmT):tdS s=(decide (20<dpE s.at_)||decide (20<dpE s.val)||dl s.thn||dl s.els||s.args.any fun x=>decide (20<dpE x)):=by cases s;rw[tdS]
theorem td_drop{l:List StmT}{i:Nat}(h:i<l.length):dl (l.drop i)=((decide (20<dpE (l.getD i default).at_)||decide (20<dpE (l.getD i default).val)||dl (l.getD i default).thn||dl (l.getD i default).els||(l.getD i default).args.any fun x=>decide (20<dpE x))||dl (l.drop (i+1))):=by rw[bW (d:=default) h,dl,td_s]
theorem td_end{l:List StmT}{i:Nat}(h:l.length<=i):dl (l.drop i)=false:=by rw[dL h,dl]
theorem hP{α:Type} [Inhabited α]{p:α->Bool}{l:List α}{i:Nat}(h:i<l.length):(l.drop i).any p=(p (l.getD i default)||(l.drop (i+1)).any p):=by rw[bW (d:=default) h,List.any_cons]
theorem any_end{α:Type}{p:α->Bool}{l:List α}{i:Nat}(h:l.length<=i):(l.drop i).any p=false:=by rw[dL h,List.any_nil]
theorem all_drop{α:Type} [Inhabited α]{p:α->Bool}{l:List α}{i:Nat}(h:i<l.length):(l.drop i).all p=(p (l.getD i default)&&(l.drop (i+1)).all p):=by rw[bW (d:=default) h,a0Q]
theorem lB{α:Type}{p:α->Bool}{l:List α}{i:Nat}(h:l.length<=i):(l.drop i).all p=true:=by rw[dL h,List.all_nil]
def anD(l:List ExpT)(b:Bool):Bool:=(l.any fun x=>decide (20<dpE x))||b
theorem td_y{l:List StmT}{i:Nat}(h:i<l.length)(c:(((20:Int)<(dpE (l.getD i default).at_:Int)\/(20:Int)<(dpE (l.getD i default).val:Int))\/dl (l.getD i default).thn=true)\/dl (l.getD i default).els=true):dl (l.drop i)=true:=by
 rw[td_drop h];rcases c with((c|c)|c)|c
 ·rw[decide_eq_true (show 20<dpE (l.getD i default).at_ by omega)];rfl
 ·rw[decide_eq_true (show 20<dpE (l.getD i default).val by omega),a1p];rfl
 ·rw[c,a1p];rfl
 rw[c,a1p];rfl
theorem td_n{l:List StmT}{i:Nat}(h:i<l.length)(c:((¬(20:Int)<(dpE (l.getD i default).at_:Int)/\¬(20:Int)<(dpE (l.getD i default).val:Int))/\dl (l.getD i default).thn=false)/\dl (l.getD i default).els=false):dl (l.drop i)=anD (l.getD i default).args (dl (l.drop (i+1))):=by rw[td_drop h,decide_eq_false (show ¬20<dpE (l.getD i default).at_ by omega),decide_eq_false (show ¬20<dpE (l.getD i default).val by omega),c.1.2,c.2];rfl
theorem an_y{l:List ExpT}{i:Nat}{b:Bool}(h:i<l.length)(c:(20:Int)<(dpE (l.getD i default):Int)):anD (l.drop i) b=true:=by unfold anD;rw[hP h,decide_eq_true (show 20<dpE (l.getD i default) by omega)];rfl
theorem an_n{l:List ExpT}{i:Nat}{b:Bool}(h:i<l.length)(c: ¬(20:Int)<(dpE (l.getD i default):Int)):anD (l.drop i) b=anD (l.drop (i+1)) b:=by unfold anD;rw[hP h,decide_eq_false (show ¬20<dpE (l.getD i default) by omega)];rfl
theorem an_e{l:List ExpT}{i:Nat}{b:Bool}(h:l.length<=i):anD (l.drop i) b=b:=by unfold anD;rw[any_end h];rfl
def SmP(p:PrgT):Prop:=p.arrs.length<4611686018427387904/\p.funs.length<4611686018427387904/\∀f∈p.funs,f.pars.length<1000000000/\f.locs.length<1000000000/\fg f.body<4611686018427387904/\ndE f.val<4611686018427387904
theorem cW{α:Type} [Inhabited α]{l:List α}{i:Nat}(h:i<l.length):l.getD i default∈l:=by rw[a0c,a0b h];exact a1e h
def lnB(a:ArrT):Bool:=decide (a.len<1)||decide (16<a.len)
theorem ar_y{l:List ArrT}{i:Nat}(h:i<l.length)(c:(l.getD i default).len<1\/16<(l.getD i default).len):(l.drop i).any lnB=true:=by rw[hP h];unfold lnB;rcases c with c|c<;>rw[decide_eq_true c]<;>simp
theorem ar_n{l:List ArrT}{i:Nat}(h:i<l.length)(c: ¬(l.getD i default).len<1/\¬16<(l.getD i default).len):(l.drop i).any lnB=(l.drop (i+1)).any lnB:=by rw[hP h];unfold lnB;rw[decide_eq_false c.1,decide_eq_false c.2];rfl
def dgB(f:FunT):Bool:=decide (6<f.pars.length)||decide (8<f.locs.length)||decide (200<nSs f.body)||decide (16<wSs f.body)||decide (20<dSs f.body 0)||dl f.body||decide (20<dpE f.val)
theorem dg_b{l:List FunT}{i:Nat}(h:i<l.length):dpG (l.drop i)=(dgB (l.getD i default)||dpG (l.drop (i+1))):=by rw[bW (d:=default) h,dpG];rfl
theorem dg_y{l:List FunT}{i:Nat}(h:i<l.length)(c:((((((6:Int)<((l.getD i default).pars.length:Int)\/(8:Int)<((l.getD i default).locs.length:Int))\/(200:Int)<(nSs (l.getD i default).body:Int))\/(16:Int)<(wSs (l.getD i default).body:Int))\/(20:Int)<(dSs (l.getD i default).body 0:Int))\/dl (l.getD i default).body=true)\/(20:Int)<(dpE (l.getD i default).val:Int)):dpG (l.drop i)=true:=by rw[dg_b h];unfold dgB;rw[a0S];left;simp only[a0S,decide_eq_true_eq];exact c.imp (fun c=>c.imp (fun c=>by omega) id) (fun c=>by omega)
theorem dg_n{l:List FunT}{i:Nat}(h:i<l.length)(c:(((((¬(6:Int)<((l.getD i default).pars.length:Int)/\¬(8:Int)<((l.getD i default).locs.length:Int))/\¬(200:Int)<(nSs (l.getD i default).body:Int))/\¬(16:Int)<(wSs (l.getD i default).body:Int))/\¬(20:Int)<(dSs (l.getD i default).body 0:Int))/\dl (l.getD i default).body=false)/\¬(20:Int)<(dpE (l.getD i default).val:Int)):dpG (l.drop i)=dpG (l.drop (i+1)):=by rw[dg_b h];unfold dgB;rw[decide_eq_false (show ¬6<(l.getD i default).pars.length by omega),decide_eq_false (show ¬8<(l.getD i default).locs.length by omega),decide_eq_false (show ¬200<nSs (l.getD i default).body by omega),decide_eq_false (show ¬16<wSs (l.getD i default).body by omega),decide_eq_false (show ¬20<dSs (l.getD i default).body 0 by omega),c.1.2,decide_eq_false (show ¬20<dpE (l.getD i default).val by omega)];rfl
theorem dg_e{l:List FunT}{i:Nat}(h:l.length<=i):dpG (l.drop i)=false:=by rw[dL h,dpG]
theorem ex_1{p:PrgT}(c:(4:Int)<(p.arrs.length:Int)\/(8:Int)<(p.funs.length:Int)):exL p=true:=by
 unfold exL;rcases c with c|c
 ·rw[decide_eq_true (show 4<p.arrs.length by omega)];rfl
 rw[decide_eq_true (show 8<p.funs.length by omega),a1p];rfl
theorem ex_0{p:PrgT}(c: ¬(4:Int)<(p.arrs.length:Int)/\¬(8:Int)<(p.funs.length:Int)):exL p=(p.arrs.any lnB||dpG p.funs):=by unfold exL;rw[decide_eq_false (show ¬4<p.arrs.length by omega),decide_eq_false (show ¬8<p.funs.length by omega)];rfl
theorem ex_2{p:PrgT}{b:Bool}(c: ¬(4:Int)<(p.arrs.length:Int)/\¬(8:Int)<(p.funs.length:Int))(h:p.arrs.any lnB=b)(hb:b=true):exL p=true:=by rw[ex_0 c,h,hb];rfl
theorem ex_3{p:PrgT}{b:Bool}(c: ¬(4:Int)<(p.arrs.length:Int)/\¬(8:Int)<(p.funs.length:Int))(h:p.arrs.any lnB=false)(g:dpG p.funs=b)(hb:b=true):exL p=true:=by rw[ex_0 c,h,g,hb];rfl
theorem ex_4{p:PrgT}(c: ¬(4:Int)<(p.arrs.length:Int)/\¬(8:Int)<(p.funs.length:Int))(h:p.arrs.any lnB=false)(g:dpG p.funs=false):exL p=false:=by rw[ex_0 c,h,g];rfl
theorem nwd_end{l:List StmT}{i d:Nat}(h:l.length<=i):nSs (l.drop i)=0/\wSs (l.drop i)=0/\dSs (l.drop i) d=0:=by rw[dL h,nSs,wSs,dSs];exact⟨rfl,rfl,rfl⟩
theorem depth_c_aux: ∀(fuel:Nat) {E:Option Addr} {O:Nat} (e:ExpT) {F:Fz} {H:Heap} {R:List Fp} (hs:HS (.of H []) F H [] R) (a5:in64 e.kind) (a6:in64 e.n) (a7:in64 e.op) (T:SR F (sL E e.kids.length O) e.kids) (hn:ndE e<4611686018427387904),ndE e<fuel->kKt ex 90 [(aG [(iI e.kind),(iI e.n),(tX e.name.b),(iI e.op),(sL E e.kids.length O)])] H fun v H'=> ∃(x:Int) (F':Fz),Fz.le F F'/\HS (.of H []) F' H' [] R/\v=iI x/\x=((dpE e:Nat):Int):=by
 intro fuel;induction fuel with
 |zero=>intros;omega
 |succ fuel ih=>
 intro E O e F H R hs a5 a6 a7 T hn b2;have ch:=nd_e e;have ci:=jR e.kids;have b0:=dp_e e;refine aB Try.func90 rfl rfl (ao 1 rfl (ab (aJ (dm hs rfl rfl) rfl rfl ?_)));rintro _ H2 _ ⟨b1,rfl,(a9:HS _ _ _ [(fP b1 [(iI e.kind),(iI e.n),(tX e.name.b),(iI e.op),(sL E e.kids.length O)])] _),_⟩;refine za (iI 0) (ag 2 rfl (wT 3 [] 1 0 [3] [(3,(iI 0))] rfl fun _=>wT 2 [] 1 0 [4] [(4,(iI 0))] rfl fun _=>au (fun(mm:Nat) f H'=> ∃(m:Int) (i:Nat) (F':Fz),Fz.le F F'/\HS (Base.of H []) F' H' [(fP b1 [(iI e.kind),(iI e.n),(tX e.name.b),(iI e.op),(sL E e.kids.length O)])] R/\aX f [(1,(pT b1 0)),(3,(iI m)),(4,(iI (i:Int)))]/\mm=e.kids.length-i/\((dpE e:Int)=max m (jX (e.kids.drop i):Int))/\(0<=m)/\(i<=e.kids.length)) _ ⟨0,0,_,fR,a9,⟨rfl,rfl,rfl,trivial⟩,rfl,(by rw[b0,a0W];omega),(by omega),(by omega)⟩ ?_));rintro b8 f5 H5 ⟨m,i,F5,Z,U,ax,rfl,h1,h0,hi⟩ bb;refine aI _ ax (fun _=>?_);clear ax;replace T:=T.mono Z;refine ao 2 rfl (wU 1 [(2,.o (sL E e.kids.length O))] 5 9 [] [(9,(.bool (decide ((i:Int)<(e.kids.length:Int)))))] (ql 48 4 (HS.hc U (i:=0) rfl) rfl rfl) rfl fun _=>zd 3 5 (fun c7=>?_) fun c7=>?_)
 ·have qa:=mS (l:=e.kids) (i:=i) (by omega);have qb:=dp_drop (l:=e.kids) (i:=i) (by omega);have qc:=dp_le (e.kids.getD i default);refine ab ?_;obtain⟨an,a1⟩:=Sv.view (SR.sv T U);obtain⟨b3,b4,b5,a8⟩:=ExpT.fx (a1 i);let a2:Value:=(aG [(iI (e.kids.getD i default).kind),(iI (e.kids.getD i default).n),(tX (e.kids.getD i default).name.b),(iI (e.kids.getD i default).op),(sL (cA (an i) 4) (e.kids.getD i default).kids.length (cK (an i) 4))])
  refine wRo 6 0 [(2,.o (sL E e.kids.length O)),(5,.o a2)] 12 17 [] [(12,(iI m)),(17,a2)] (vA (ql 48 4 (HS.hc U (i:=0) rfl) rfl rfl) (vA (Sv.ix (j:=(i:Int)) (SR.sv T U)) (vA (qn 50 0 5 (ExpT.vw (a1 i)) rfl rfl rfl rfl) trivial))) rfl fun _=>zc (ih (e.kids.getD i default) (HS.call U) (by omega) (by omega) (by omega) a8 (by omega) (by omega)) ?_
  rintro _ b7 ⟨b9,b6,a4,Y,rfl,rfl⟩;replace Y:HS _ _ _ [_] _:=HS.back U rfl Y;refine wUo 3 7 [] 19 20 [3] [(3,(iI (if 1+((dpE (e.kids.getD i default):Nat):Int)>m then 1+((dpE (e.kids.getD i default):Nat):Int) else m)))] (vi (n:=1+((dpE (e.kids.getD i default):Nat):Int))) rfl fun _=>ag 2 rfl (wU 1 [] 10 11 [4] [(4,(iI ((i:Int)+1)))] (vi (n:=(i:Int)+1)) rfl fun _=>?_)
  refine bb _ _ _ ?_ ⟨(if 1+((dpE (e.kids.getD i default):Nat):Int)>m then 1+((dpE (e.kids.getD i default):Nat):Int) else m),i+1,_,(fT (Z) a4),Y,⟨rfl,rfl,rfl,trivial⟩,rfl,(by omega),(by omega),(by omega)⟩;omega
 have qb:=dp_end (l:=e.kids) (i:=i) (by omega);refine wT 1 [] 2 2 [21] [(2,(iI m))] rfl fun _=>ah ⟨.inr rfl,_,rfl,m,_,(Z),(HS.forget U),rfl,(by omega)⟩
theorem m7{E:Option Addr}{O:Nat}(e:ExpT)(hs:HS (.of H []) F H [] R)(T:in64 e.kind)(U:in64 e.n)(Y:in64 e.op)(Z:SR F (sL E e.kids.length O) e.kids)(hn:ndE e<4611686018427387904):kKt ex 90 [(aG [(iI e.kind),(iI e.n),(tX e.name.b),(iI e.op),(sL E e.kids.length O)])] H fun v H'=> ∃(x:Int) (F':Fz),Fz.le F F'/\HS (.of H []) F' H' [] R/\v=iI x/\x=((dpE e:Nat):Int):=
 depth_c_aux ex (ndE e+1) e hs T U Y Z hn (a0D _)
theorem count_c_aux: ∀(fuel:Nat) {b0:Option Addr} {cl:Nat} (l:List StmT) (deep:Nat) {F:Fz} {H:Heap} {R:List Fp} (hs:HS (.of H []) F H [] R) (hl:SR F (sL b0 l.length cl) l) (hn:deep+fg l<4611686018427387904),fg l<fuel->kKt ex 88 [(sL b0 l.length cl),(iI (deep:Int))] H fun v H'=> ∃(n:Int) (w:Int) (d:Int) (F':Fz),Fz.le F F'/\HS (.of H []) F' H' [] R/\v= .tuple ⟨[iI n,iI w,iI d]⟩/\n=((nSs l:Nat):Int)/\w=((wSs l:Nat):Int)/\d=((dSs l deep:Nat):Int):=by
 intro fuel;induction fuel with
 |zero=>intros;omega
 |succ fuel ih=>
 intro b0 cl l deep F H R hs hl hn fz;have fu:=l4 l;have f1:=n_le l;have f2:=w_le l;have f3:=d_le l deep;refine aB Try.func88 rfl rfl (ao 1 rfl (wT 2 [] 4 6 [] [(4,(iI 0)),(5,(iI 0)),(6,(iI 0))] rfl fun _=>wT 3 [] 1 0 [7,8,9] [(7,(iI 0)),(8,(iI 0)),(9,(iI 0))] rfl fun _=>wT 2 [] 1 0 [10] [(10,(iI 0))] rfl fun _=>au (fun(mm:Nat) f H'=> ∃(n:Nat) (w:Nat) (m:Int) (i:Nat) (F':Fz),Fz.le F F'/\HS (Base.of H []) F' H' [] R/\aX f [(0,(sL b0 l.length cl)),(1,(iI (deep:Int))),(7,(iI (n:Int))),(8,(iI (w:Int))),(9,(iI m)),(10,(iI (i:Int)))]/\mm=l.length-i/\(nSs l=n+nSs (l.drop i))/\(wSs l=w+wSs (l.drop i))/\((dSs l deep:Int)=max m (dSs (l.drop i) deep:Int))/\(0<=m)/\(i<=l.length)) _ ⟨0,0,0,0,_,fR,hs,⟨rfl,rfl,rfl,rfl,rfl,rfl,trivial⟩,rfl,(by rw[a0W];omega),(by rw[a0W];omega),(by rw[a0W];omega),(by omega),(by omega)⟩ ?_));rintro fd f4 H4 ⟨n,w,m,i,F4,a1,O,a8,rfl,h1,h2,h3,h0,hi⟩ b7;refine aI _ a8 (fun _=>?_);clear a8;replace hl:=hl.mono a1;refine ao 2 rfl (wT 1 [] 17 20 [] [(20,(.bool (decide ((i:Int)<(l.length:Int)))))] rfl fun _=>zd 4 5 (fun c6=>?_) fun c6=>?_)
 ·have qa:=ns_at (l:=l) (i:=i) (by omega);have qs:=ns_s (l.getD i default);have qb:=n_drop (l:=l) (i:=i) (by omega);have qc:=w_drop (l:=l) (i:=i) (by omega);have qd:=d_drop (l:=l) (i:=i) (d:=deep) (by omega);refine wU 2 [] 23 24 [7] [(7,(iI ((n:Int)+1)))] (vi (n:=(n:Int)+1)) rfl fun _=>wT 3 [] 25 27 [9] [(9,(iI (if(deep:Int)>m then(deep:Int) else m)))] rfl fun _=>?_
  obtain⟨e6,a9⟩:=Sv.view (SR.sv hl O);obtain⟨c7,c8,c9,dd,dk,dn,b1,b2,et,b8,b9,ch,ci⟩:=StmT.fx (a9 i);refine wR 1 [(4,.o (iI (l.getD i default).kind))] 28 33 [] [(33,(.bool ((l.getD i default).kind==4)))] (vA (Sv.ix (j:=(i:Int)) (SR.sv hl O)) (vA (ql 3 0 (StmT.vw (a9 i)) rfl rfl) trivial)) rfl fun _=>wk_join (fun f H'=> ∃(Z:Nat),H'=H4/\aX f [(0,(sL b0 l.length cl)),(1,(iI (deep:Int))),(7,(iI ((n:Int)+1))),(8,(iI (Z:Int))),(9,(iI (if(deep:Int)>m then(deep:Int) else m))),(10,(iI (i:Int)))]/\(Z=w+(if(l.getD i default).kind=4 then 1 else 0))) (fun a5=>?_) ?_
  ·refine zi 0 0 (fun an=>?_) fun an=>?_
   ·try simp only[BS]at an
    refine wU 0 [] 34 35 [8] [(8,(iI ((w:Int)+1)))] (vi (n:=(w:Int)+1)) rfl fun _=>?_
    exact a5 _ _ ⟨w+1,rfl,⟨rfl,rfl,rfl,rfl,rfl,rfl,trivial⟩,(by(rw[if_pos (by omega)];done))⟩
   try simp only[BS]at an
   exact a5 _ _ ⟨w,rfl,⟨rfl,rfl,rfl,rfl,rfl,rfl,trivial⟩,(by(rw[if_neg (by omega)];omega))⟩
  skip;rintro e9 H4 ⟨Z,rfl,a2,fb⟩;refine aI _ a2 (fun _=>?_);clear a2;refine ao 2 rfl (ab ?_);obtain⟨T,a3⟩:=Sv.view (SR.sv hl O);obtain⟨dt,d1,d2,d3,d4,d5,b3,b4,ez,co,cL,a6,c0⟩:=StmT.fx (a3 i);refine wRo 7 0 [(4,.o (sL (cA (T i) 15) (l.getD i default).thn.length (cK (T i) 15)))] 37 43 [] [(41,(sL (cA (T i) 15) (l.getD i default).thn.length (cK (T i) 15))),(43,(iI ((deep:Int)+1)))] (vA (Sv.ix (j:=(i:Int)) (SR.sv hl O)) (vA (ql 47 15 (StmT.vw (a3 i)) rfl rfl) (vA (vi (n:=(deep:Int)+1)) trivial))) rfl fun _=>zc (ih (l.getD i default).thn (deep+1) (HS.call O) a6 (by omega) (by omega)) ?_
  rintro _ e4 ⟨ff,fk,e7,e2,ax,E,rfl,rfl,rfl,rfl⟩;replace E:HS _ _ _ [] _:=HS.back O rfl E;replace hl:=hl.mono ax;refine wTo 7 8 [] 45 47 [11,12,13,36] [(11,(iI ((nSs (l.getD i default).thn:Nat):Int))),(12,(iI ((wSs (l.getD i default).thn:Nat):Int))),(13,(iI ((dSs (l.getD i default).thn (deep+1):Nat):Int)))] rfl fun _=>ag 2 rfl (ab ?_)
  obtain⟨U,a4⟩:=Sv.view (SR.sv hl E);obtain⟨d6,d7,d8,d9,ea,em,b5,b6,e0,c3,c4,c5,a7⟩:=StmT.fx (a4 i);refine wRo 7 0 [(4,.o (sL (cA (U i) 16) (l.getD i default).els.length (cK (U i) 16)))] 49 55 [] [(53,(sL (cA (U i) 16) (l.getD i default).els.length (cK (U i) 16))),(55,(iI ((deep:Int)+1)))] (vA (Sv.ix (j:=(i:Int)) (SR.sv hl E)) (vA (ql 47 16 (StmT.vw (a4 i)) rfl rfl) (vA (vi (n:=(deep:Int)+1)) trivial))) rfl fun _=>zc (ih (l.getD i default).els (deep+1) (HS.call E) a7 (by omega) (by omega)) ?_
  rintro _ e5 ⟨fi,fl,e8,e3,bb,Y,rfl,rfl,rfl,rfl⟩;replace Y:HS _ _ _ [] _:=HS.back E rfl Y;refine wTo 7 8 [] 57 59 [14,15,16,48] [(14,(iI ((nSs (l.getD i default).els:Nat):Int))),(15,(iI ((wSs (l.getD i default).els:Nat):Int))),(16,(iI ((dSs (l.getD i default).els (deep+1):Nat):Int)))] rfl fun _=>ag 1 rfl (wR 2 [] 60 74 [7,8,9] [(7,(iI ((((n:Int)+1)+((nSs (l.getD i default).thn:Nat):Int))+((nSs (l.getD i default).els:Nat):Int)))),(8,(iI (((Z:Int)+((wSs (l.getD i default).thn:Nat):Int))+((wSs (l.getD i default).els:Nat):Int)))),(9,(iI (if(if((dSs (l.getD i default).els (deep+1):Nat):Int)>((dSs (l.getD i default).thn (deep+1):Nat):Int) then((dSs (l.getD i default).els (deep+1):Nat):Int) else((dSs (l.getD i default).thn (deep+1):Nat):Int))>(if(deep:Int)>m then(deep:Int) else m) then(if((dSs (l.getD i default).els (deep+1):Nat):Int)>((dSs (l.getD i default).thn (deep+1):Nat):Int) then((dSs (l.getD i default).els (deep+1):Nat):Int) else((dSs (l.getD i default).thn (deep+1):Nat):Int)) else(if(deep:Int)>m then(deep:Int) else m))))] (vA (vi (n:=((n:Int)+1)+((nSs (l.getD i default).thn:Nat):Int))) (vA (vi (n:=(((n:Int)+1)+((nSs (l.getD i default).thn:Nat):Int))+((nSs (l.getD i default).els:Nat):Int))) (vA (vi (n:=(Z:Int)+((wSs (l.getD i default).thn:Nat):Int))) (vA (vi (n:=((Z:Int)+((wSs (l.getD i default).thn:Nat):Int))+((wSs (l.getD i default).els:Nat):Int))) trivial)))) rfl fun _=>wU 1 [] 21 22 [10] [(10,(iI ((i:Int)+1)))] (vi (n:=(i:Int)+1)) rfl fun _=>?_)
  refine b7 _ _ _ ?_ ⟨((n+1)+(nSs (l.getD i default).thn))+(nSs (l.getD i default).els),(Z+(wSs (l.getD i default).thn))+(wSs (l.getD i default).els),(if(if((dSs (l.getD i default).els (deep+1):Nat):Int)>((dSs (l.getD i default).thn (deep+1):Nat):Int) then((dSs (l.getD i default).els (deep+1):Nat):Int) else((dSs (l.getD i default).thn (deep+1):Nat):Int))>(if(deep:Int)>m then(deep:Int) else m) then(if((dSs (l.getD i default).els (deep+1):Nat):Int)>((dSs (l.getD i default).thn (deep+1):Nat):Int) then((dSs (l.getD i default).els (deep+1):Nat):Int) else((dSs (l.getD i default).thn (deep+1):Nat):Int)) else(if(deep:Int)>m then(deep:Int) else m)),i+1,_,(fT (fT (a1) ax) bb),Y,⟨rfl,rfl,rfl,rfl,rfl,rfl,trivial⟩,rfl,(by omega),(by omega),(by omega),(by omega),(by omega)⟩;omega
 have qb:=nwd_end (l:=l) (i:=i) (d:=deep) (by omega);refine wT 1 [] 4 6 [75,76,77] [(4,(iI (n:Int))),(5,(iI (w:Int))),(6,(iI m))] rfl fun _=>ah ⟨.inr rfl,_,rfl,(n:Int),(w:Int),m,_,(a1),(HS.forget O),rfl,(by omega),(by omega),(by omega)⟩
theorem count_c{E:Option Addr}{O:Nat}(l:List StmT)(deep:Nat)(hs:HS (.of H []) F H [] R)(T:SR F (sL E l.length O) l)(U:deep+fg l<4611686018427387904):kKt ex 88 [(sL E l.length O),(iI (deep:Int))] H fun v H'=> ∃(n:Int) (w:Int) (d:Int) (F':Fz),Fz.le F F'/\HS (.of H []) F' H' [] R/\v= .tuple ⟨[iI n,iI w,iI d]⟩/\n=((nSs l:Nat):Int)/\w=((wSs l:Nat):Int)/\d=((dSs l deep:Nat):Int):=
 count_c_aux ex (fg l+1) l deep hs T U (a0D _)
theorem mC: ∀(fuel:Nat) {ar:Option Addr} {bb:Nat} (l:List StmT) {F:Fz} {H:Heap} {R:List Fp} (hs:HS (.of H []) F H [] R) (hl:SR F (sL ar l.length bb) l) (hn:fg l<4611686018427387904),fg l<fuel->kKt ex 89 [(sL ar l.length bb)] H fun v H'=> ∃(x:Bool) (F':Fz),Fz.le F F'/\HS (.of H []) F' H' [] R/\v= .bool x/\x=dl l:=by
 intro fuel;induction fuel with
 |zero=>intros;omega
 |succ fuel ih=>
 intro ar bb l F H R hs hl hn he;have g6:=l4 l;refine aB Try.func89 rfl rfl (ao 1 rfl (wT 3 [] 2 2 [] [(2,(.bool false))] rfl fun _=>wT 2 [] 1 0 [3] [(3,(iI 0))] rfl fun _=>au (fun(mm:Nat) f H'=> ∃(i:Nat) (F':Fz),Fz.le F F'/\HS (Base.of H []) F' H' [] R/\aX f [(0,(sL ar l.length bb)),(3,(iI (i:Int)))]/\mm=l.length-i/\(dl l=dl (l.drop i))/\(i<=l.length)) _ ⟨0,_,fR,hs,⟨rfl,rfl,trivial⟩,rfl,(by rfl),(by omega)⟩ ?_));rintro gm f3 H3 ⟨i,F3,b1,b8,c7,rfl,h1,hi⟩ d6;refine aI _ c7 (fun _=>?_);clear c7;replace hl:=hl.mono b1;refine ao 2 rfl (wT 1 [] 6 9 [] [(9,(.bool (decide ((i:Int)<(l.length:Int)))))] rfl fun _=>zd 4 5 (fun c5=>?_) fun c5=>?_)
 ·have qa:=ns_at (l:=l) (i:=i) (by omega);have qs:=ns_s (l.getD i default);have ho:=jR (l.getD i default).args;refine ab ?_;obtain⟨E,c8⟩:=Sv.view (SR.sv hl b8);obtain⟨e0,e1,e2,e3,e4,e5,ea,em,d3,a9,Z,a1,T⟩:=StmT.fx (c8 i);let c9:Value:=(aG [(iI (l.getD i default).kind),(tX (l.getD i default).name.b),(tX (l.getD i default).to.b),(iI (l.getD i default).n),(iI (l.getD i default).at_.kind),(iI (l.getD i default).at_.n),(tX (l.getD i default).at_.name.b),(iI (l.getD i default).at_.op),(sL (cA (E i) 8) (l.getD i default).at_.kids.length (cK (E i) 8)),(iI (l.getD i default).val.kind),(iI (l.getD i default).val.n),(tX (l.getD i default).val.name.b),(iI (l.getD i default).val.op),(sL (cA (E i) 13) (l.getD i default).val.kids.length (cK (E i) 13)),(sL (cA (E i) 14) (l.getD i default).args.length (cK (E i) 14)),(sL (cA (E i) 15) (l.getD i default).thn.length (cK (E i) 15)),(sL (cA (E i) 16) (l.getD i default).els.length (cK (E i) 16))])
  refine wRo 4 0 [(3,.o c9)] 12 15 [] [(15,c9)] (vA (Sv.ix (j:=(i:Int)) (SR.sv hl b8)) (vA (qn 98 0 17 (StmT.vw (c8 i)) rfl rfl rfl rfl) trivial)) rfl fun _=>aJ (aZ b8 rfl) rfl rfl ?_
  rintro _ fi _ ⟨b9,rfl,(d1:HS _ _ _ [(fP b9 [(iI 0),(tX []),(tX []),(iI 0),(iI 0),(iI 0),(tX []),(iI 0),(sL none 0 0),(iI 0),(iI 0),(tX []),(iI 0),(sL none 0 0),(sL none 0 0),(sL none 0 0),(sL none 0 0)])] _),_⟩;refine aF (aq (q:=0) d1 rfl rfl rfl rfl rfl rfl rfl rfl rfl) rfl ?_;rintro _ fk _ ⟨(b3:HS _ _ _ [(fP b9 [(iI (l.getD i default).kind),(tX (l.getD i default).name.b),(tX (l.getD i default).to.b),(iI (l.getD i default).n),(iI (l.getD i default).at_.kind),(iI (l.getD i default).at_.n),(tX (l.getD i default).at_.name.b),(iI (l.getD i default).at_.op),(sL (cA (E i) 8) (l.getD i default).at_.kids.length (cK (E i) 8)),(iI (l.getD i default).val.kind),(iI (l.getD i default).val.n),(tX (l.getD i default).val.name.b),(iI (l.getD i default).val.op),(sL (cA (E i) 13) (l.getD i default).val.kids.length (cK (E i) 13)),(sL (cA (E i) 14) (l.getD i default).args.length (cK (E i) 14)),(sL (cA (E i) 15) (l.getD i default).thn.length (cK (E i) 15)),(sL (cA (E i) 16) (l.getD i default).els.length (cK (E i) 16))])] _),_⟩;let dd:Fp:=(fP b9 [(iI (l.getD i default).kind),(tX (l.getD i default).name.b),(tX (l.getD i default).to.b),(iI (l.getD i default).n),(iI (l.getD i default).at_.kind),(iI (l.getD i default).at_.n),(tX (l.getD i default).at_.name.b),(iI (l.getD i default).at_.op),(sL (cA (E i) 8) (l.getD i default).at_.kids.length (cK (E i) 8)),(iI (l.getD i default).val.kind),(iI (l.getD i default).val.n),(tX (l.getD i default).val.name.b),(iI (l.getD i default).val.op),(sL (cA (E i) 13) (l.getD i default).val.kids.length (cK (E i) 13)),(sL (cA (E i) 14) (l.getD i default).args.length (cK (E i) 14)),(sL (cA (E i) 15) (l.getD i default).thn.length (cK (E i) 15)),(sL (cA (E i) 16) (l.getD i default).els.length (cK (E i) 16))])
  refine ag 3 rfl (dV 16 35 [] [(35,(.bool ((((decide ((20:Int)<((dpE (⟨(l.getD i default).at_.kind,(l.getD i default).at_.n,⟨(l.getD i default).at_.name.b⟩,(l.getD i default).at_.op,(l.getD i default).at_.kids⟩:ExpT):Nat):Int)))||(decide ((20:Int)<((dpE (⟨(l.getD i default).val.kind,(l.getD i default).val.n,⟨(l.getD i default).val.name.b⟩,(l.getD i default).val.op,(l.getD i default).val.kids⟩:ExpT):Nat):Int))))||dl (l.getD i default).thn)||dl (l.getD i default).els)))] (fun H'=> ∃F',Fz.le F3 F'/\HS (Base.of H []) F' H' [dd] R) ?_ ?_)
  ·refine ab (ai (v:=(pT b9 4)) (dx rfl rfl) rfl rfl (ai (v:=(aG [(iI (l.getD i default).at_.kind),(iI (l.getD i default).at_.n),(tX (l.getD i default).at_.name.b),(iI (l.getD i default).at_.op),(sL (cA (E i) 8) (l.getD i default).at_.kids.length (cK (E i) 8))])) (bL (i:=4) rfl rfl rfl (HS.hc b3 (i:=0) rfl) rfl rfl rfl) rfl rfl (zc (m7 ex (⟨(l.getD i default).at_.kind,(l.getD i default).at_.n,⟨(l.getD i default).at_.name.b⟩,(l.getD i default).at_.op,(l.getD i default).at_.kids⟩:ExpT) (HS.call b3) (by omega) (by omega) (by omega) d3 (by(simp only[bc];omega))) ?_)));rintro _ fu ⟨go,e7,an,a2,rfl,rfl⟩;replace a2:HS _ _ _ [_] _:=HS.back b3 rfl a2;replace a9:=a9.mono an;replace a1:=a1.mono an;replace T:=T.mono an;refine ai (v:=(.bool (decide ((20:Int)<((dpE (⟨(l.getD i default).at_.kind,(l.getD i default).at_.n,⟨(l.getD i default).at_.name.b⟩,(l.getD i default).at_.op,(l.getD i default).at_.kids⟩:ExpT):Nat):Int))))) (bH rfl rfl rfl rfl) rfl rfl (zm (.bool (decide ((20:Int)<((dpE (⟨(l.getD i default).at_.kind,(l.getD i default).at_.n,⟨(l.getD i default).at_.name.b⟩,(l.getD i default).at_.op,(l.getD i default).at_.kids⟩:ExpT):Nat):Int)))) (dj (v:=(decide ((20:Int)<((dpE (⟨(l.getD i default).at_.kind,(l.getD i default).at_.n,⟨(l.getD i default).at_.name.b⟩,(l.getD i default).at_.op,(l.getD i default).at_.kids⟩:ExpT):Nat):Int)))) rfl rfl (fun O=>?_) (fun O=>?_)))
   ·have b5:=O;try simp only[BS]at b5
    refine ai (v:=(pT b9 9)) (dx rfl rfl) rfl rfl (aU rfl O (ai (v:=(aG [(iI (l.getD i default).val.kind),(iI (l.getD i default).val.n),(tX (l.getD i default).val.name.b),(iI (l.getD i default).val.op),(sL (cA (E i) 13) (l.getD i default).val.kids.length (cK (E i) 13))])) (bL (i:=9) rfl rfl rfl (HS.hc a2 (i:=0) rfl) rfl rfl rfl) rfl rfl (aU rfl O (zc (m7 ex (⟨(l.getD i default).val.kind,(l.getD i default).val.n,⟨(l.getD i default).val.name.b⟩,(l.getD i default).val.op,(l.getD i default).val.kids⟩:ExpT) (HS.call a2) (by omega) (by omega) (by omega) a9 (by(simp only[bc];omega))) ?_))));rintro _ f1 ⟨g2,e8,a5,a3,rfl,rfl⟩;replace a3:HS _ _ _ [_] _:=HS.back a2 rfl a3;replace a1:=a1.mono a5;replace T:=T.mono a5;refine aU rfl O (ai (v:=(.bool (decide ((20:Int)<((dpE (⟨(l.getD i default).val.kind,(l.getD i default).val.n,⟨(l.getD i default).val.name.b⟩,(l.getD i default).val.op,(l.getD i default).val.kids⟩:ExpT):Nat):Int))))) (bH rfl rfl rfl rfl) rfl rfl (ai (v:=(.bool (decide ((20:Int)<((dpE (⟨(l.getD i default).val.kind,(l.getD i default).val.n,⟨(l.getD i default).val.name.b⟩,(l.getD i default).val.op,(l.getD i default).val.kids⟩:ExpT):Nat):Int))))) (aV rfl O rfl) rfl rfl (zm (.bool (decide ((20:Int)<((dpE (⟨(l.getD i default).val.kind,(l.getD i default).val.n,⟨(l.getD i default).val.name.b⟩,(l.getD i default).val.op,(l.getD i default).val.kids⟩:ExpT):Nat):Int)))) (dj (v:=(decide ((20:Int)<((dpE (⟨(l.getD i default).val.kind,(l.getD i default).val.n,⟨(l.getD i default).val.name.b⟩,(l.getD i default).val.op,(l.getD i default).val.kids⟩:ExpT):Nat):Int)))) rfl rfl (fun U=>?_) (fun U=>?_)))))
    ·have b6:=U;try simp only[BS]at b6
     refine ai (v:=(pT b9 15)) (dx rfl rfl) rfl rfl (aU rfl U (ai (v:=(sL (cA (E i) 15) (l.getD i default).thn.length (cK (E i) 15))) (cp (i:=15) rfl rfl (HS.hc a3 (i:=0) rfl) rfl rfl) rfl rfl (aU rfl U (zc (ih (l.getD i default).thn (HS.call a3) a1 (by omega) (by omega)) ?_))));rintro _ f2 ⟨g3,e9,b2,a4,rfl,rfl⟩;replace a4:HS _ _ _ [_] _:=HS.back a3 rfl a4;replace T:=T.mono b2;refine ai (v:=(.bool (dl (l.getD i default).thn))) (aV rfl U rfl) rfl rfl (zm (.bool (dl (l.getD i default).thn)) (dj (v:=(dl (l.getD i default).thn)) rfl rfl (fun Y=>?_) (fun Y=>?_)))
     ·have b7:=Y;try simp only[BS]at b7
      refine ai (v:=(pT b9 16)) (dx rfl rfl) rfl rfl (aU rfl Y (ai (v:=(sL (cA (E i) 16) (l.getD i default).els.length (cK (E i) 16))) (cp (i:=16) rfl rfl (HS.hc a4 (i:=0) rfl) rfl rfl) rfl rfl (aU rfl Y (zc (ih (l.getD i default).els (HS.call a4) T (by omega) (by omega)) ?_))));rintro _ f4 ⟨g4,fb,dt,b4,rfl,rfl⟩;replace b4:HS _ _ _ [_] _:=HS.back a4 rfl b4;refine ai (v:=(.bool (dl (l.getD i default).els))) (aV rfl Y rfl) rfl rfl (aH ?_);exact ay ⟨rfl,⟨_,(fT (fT (fT (fT fR an) a5) b2) dt),HS.sub b4 (List.Sublist.refl _)⟩,(by repeat' first|exact Lr|refine Lu rfl ?_),(agC (congrArg Value.bool (show dl (l.getD i default).els=((((decide ((20:Int)<((dpE (⟨(l.getD i default).at_.kind,(l.getD i default).at_.n,⟨(l.getD i default).at_.name.b⟩,(l.getD i default).at_.op,(l.getD i default).at_.kids⟩:ExpT):Nat):Int)))||(decide ((20:Int)<((dpE (⟨(l.getD i default).val.kind,(l.getD i default).val.n,⟨(l.getD i default).val.name.b⟩,(l.getD i default).val.op,(l.getD i default).val.kids⟩:ExpT):Nat):Int))))||dl (l.getD i default).thn)||dl (l.getD i default).els) by simp only[↓O,↓U,↓Y,BT])) agN)⟩
     have b7:=Y;try simp only[BS]at b7
     refine aw rfl Y rfl (aw rfl Y rfl (ai (v:=(.bool true)) (aD rfl Y rfl) rfl rfl (aH ?_)));exact ay ⟨rfl,⟨_,(fT (fT (fT fR an) a5) b2),HS.sub a4 (List.Sublist.refl _)⟩,(by repeat' first|exact Lr|refine Lu rfl ?_),(agC (congrArg Value.bool (show true=((((decide ((20:Int)<((dpE (⟨(l.getD i default).at_.kind,(l.getD i default).at_.n,⟨(l.getD i default).at_.name.b⟩,(l.getD i default).at_.op,(l.getD i default).at_.kids⟩:ExpT):Nat):Int)))||(decide ((20:Int)<((dpE (⟨(l.getD i default).val.kind,(l.getD i default).val.n,⟨(l.getD i default).val.name.b⟩,(l.getD i default).val.op,(l.getD i default).val.kids⟩:ExpT):Nat):Int))))||dl (l.getD i default).thn)||dl (l.getD i default).els) by simp only[↓O,↓U,↓Y,BT])) agN)⟩
    have b6:=U;try simp only[BS]at b6
    refine aw rfl U rfl (aw rfl U rfl (ai (v:=(.bool true)) (aD rfl U rfl) rfl rfl (zm (.bool true) (aw rfl rfl rfl (aw rfl rfl rfl ?_)))));refine aw rfl rfl rfl (ai (v:=(.bool true)) (aD rfl rfl rfl) rfl rfl (aH ?_));exact ay ⟨rfl,⟨_,(fT (fT fR an) a5),HS.sub a3 (List.Sublist.refl _)⟩,(by repeat' first|exact Lr|refine Lu rfl ?_),(agC (congrArg Value.bool (show true=((((decide ((20:Int)<((dpE (⟨(l.getD i default).at_.kind,(l.getD i default).at_.n,⟨(l.getD i default).at_.name.b⟩,(l.getD i default).at_.op,(l.getD i default).at_.kids⟩:ExpT):Nat):Int)))||(decide ((20:Int)<((dpE (⟨(l.getD i default).val.kind,(l.getD i default).val.n,⟨(l.getD i default).val.name.b⟩,(l.getD i default).val.op,(l.getD i default).val.kids⟩:ExpT):Nat):Int))))||dl (l.getD i default).thn)||dl (l.getD i default).els) by simp only[↓O,↓U,BT])) agN)⟩
   have b5:=O;try simp only[BS]at b5
   refine aw rfl O rfl (aw rfl O rfl (aw rfl O rfl (ai (v:=(.bool true)) (aD rfl O rfl) rfl rfl (zm (.bool true) (aw rfl rfl rfl ?_)))));refine aw rfl rfl rfl (aw rfl rfl rfl (ai (v:=(.bool true)) (aD rfl rfl rfl) rfl rfl (zm (.bool true) (aw rfl rfl rfl (aw rfl rfl rfl ?_)))));refine aw rfl rfl rfl (ai (v:=(.bool true)) (aD rfl rfl rfl) rfl rfl (aH ?_));exact ay ⟨rfl,⟨_,(fT fR an),HS.sub a2 (List.Sublist.refl _)⟩,(by repeat' first|exact Lr|refine Lu rfl ?_),(agC (congrArg Value.bool (show true=((((decide ((20:Int)<((dpE (⟨(l.getD i default).at_.kind,(l.getD i default).at_.n,⟨(l.getD i default).at_.name.b⟩,(l.getD i default).at_.op,(l.getD i default).at_.kids⟩:ExpT):Nat):Int)))||(decide ((20:Int)<((dpE (⟨(l.getD i default).val.kind,(l.getD i default).val.n,⟨(l.getD i default).val.name.b⟩,(l.getD i default).val.op,(l.getD i default).val.kids⟩:ExpT):Nat):Int))))||dl (l.getD i default).thn)||dl (l.getD i default).els) by simp only[↓O,BT])) agN)⟩
  skip;rintro f9 fl ⟨d4,a6,c0⟩;replace Z:=Z.mono a6;refine ao 1 rfl (zi 1 2 (fun b0=>?_) fun b0=>?_)
  ·try simp only[BS]at b0
   have cl:=td_y (l:=l) (i:=i) (by omega) (by simpa only[bc] using b0);refine wT 1 [] 2 2 [] [(2,(.bool true))] rfl fun _=>ah ⟨.inr rfl,_,rfl,true,_,(fT (b1) a6),(HS.forget c0),rfl,(h1.trans cl).symm⟩
  try simp only[BS]at b0
  have df:=td_n (l:=l) (i:=i) (by omega) (by simpa only[bc] using b0);refine wT 2 [] 1 0 [5] [(5,(iI 0))] rfl fun _=>au (fun(mm:Nat) f H'=> ∃(k:Nat) (F':Fz),Fz.le d4 F'/\HS (Base.of H []) F' H' [dd] R/\aX f [(0,(sL ar l.length bb)),(3,(iI (i:Int))),(4,(pT b9 0)),(5,(iI (k:Int)))]/\mm=(l.getD i default).args.length-k/\(dl (l.drop i)=anD ((l.getD i default).args.drop k) (dl (l.drop (i+1))))/\(k<=(l.getD i default).args.length)) _ ⟨0,_,fR,c0,⟨rfl,rfl,rfl,rfl,trivial⟩,rfl,(df),(by omega)⟩ ?_
  rintro e6 f7 f5 ⟨k,fd,a7,ax,cL,rfl,g1,hk⟩ d2;refine aI _ cL (fun _=>?_);clear cL;replace Z:=Z.mono a7;refine ao 2 rfl (wU 1 [(2,.o (sL (cA (E i) 14) (l.getD i default).args.length (cK (E i) 14)))] 36 40 [] [(40,(.bool (decide ((k:Int)<((l.getD i default).args.length:Int)))))] (ql 48 14 (HS.hc ax (i:=0) rfl) rfl rfl) rfl fun _=>zd 4 5 (fun d5=>?_) fun d5=>?_)
  ·have qk:=mS (l:=(l.getD i default).args) (i:=k) (by omega);refine ab ?_;obtain⟨ci,c3⟩:=Sv.view (SR.sv Z ax);obtain⟨d7,d8,d9,c6⟩:=ExpT.fx (c3 k);let dk:Value:=(aG [(iI ((l.getD i default).args.getD k default).kind),(iI ((l.getD i default).args.getD k default).n),(tX ((l.getD i default).args.getD k default).name.b),(iI ((l.getD i default).args.getD k default).op),(sL (cA (ci k) 4) ((l.getD i default).args.getD k default).kids.length (cK (ci k) 4))])
   refine wRo 5 0 [(1,.o (sL (cA (E i) 14) (l.getD i default).args.length (cK (E i) 14))),(4,.o dk)] 43 47 [] [(47,dk)] (vA (ql 48 14 (HS.hc ax (i:=0) rfl) rfl rfl) (vA (Sv.ix (j:=(k:Int)) (SR.sv Z ax)) (vA (qn 50 0 5 (ExpT.vw (c3 k)) rfl rfl rfl rfl) trivial))) rfl fun _=>zc (m7 ex ((l.getD i default).args.getD k default) (HS.call ax) (by omega) (by omega) (by omega) c6 (by omega)) ?_
   rintro _ f6 ⟨g5,ff,co,a8,rfl,rfl⟩;replace a8:HS _ _ _ [_] _:=HS.back ax rfl a8;refine wTo 1 6 [] 49 49 [] [(49,(.bool (decide ((20:Int)<((dpE ((l.getD i default).args.getD k default):Nat):Int)))))] rfl fun _=>ag 1 rfl (zd 1 2 (fun ch=>?_) fun ch=>?_)
   ·have cl:=an_y (l:=(l.getD i default).args) (i:=k) (b:=dl (l.drop (i+1))) (by omega) (by simpa only[bc] using ch);refine wT 1 [] 2 2 [] [(2,(.bool true))] rfl fun _=>ah ⟨.inr rfl,_,rfl,true,_,(fT (fT (fT (b1) a6) a7) co),(HS.forget a8),rfl,(h1.trans (g1.trans cl)).symm⟩
   have df:=an_n (l:=(l.getD i default).args) (i:=k) (b:=dl (l.drop (i+1))) (by omega) (by simpa only[bc] using ch);refine wU 1 [] 41 42 [5] [(5,(iI ((k:Int)+1)))] (vi (n:=(k:Int)+1)) rfl fun _=>?_
   refine d2 _ _ _ ?_ ⟨k+1,_,(fT (a7) co),a8,⟨rfl,rfl,rfl,rfl,trivial⟩,rfl,(g1.trans df),(by omega)⟩;omega
  refine wU 1 [] 10 11 [3] [(3,(iI ((i:Int)+1)))] (vi (n:=(i:Int)+1)) rfl fun _=>?_
  refine d6 _ _ _ ?_ ⟨i+1,_,(fT (fT (b1) a6) a7),(HS.sub ax (a09 _ _)),⟨rfl,rfl,trivial⟩,rfl,(h1.trans (g1.trans (an_e (by omega)))),(by omega)⟩;omega
 refine wT 1 [] 2 2 [] [(2,(.bool false))] rfl fun _=>ah ⟨.inr rfl,_,rfl,false,_,(b1),(HS.forget b8),rfl,(h1.trans (td_end (by omega))).symm⟩
theorem tooDeep_c{E:Option Addr}{O:Nat}(l:List StmT)(hs:HS (.of H []) F H [] R)(T:SR F (sL E l.length O) l)(U:fg l<4611686018427387904):kKt ex 89 [(sL E l.length O)] H fun v H'=> ∃(x:Bool) (F':Fz),Fz.le F F'/\HS (.of H []) F' H' [] R/\v= .bool x/\x=dl l:=
 mC ex (fg l+1) l hs T U (a0D _)
set_option maxHeartbeats 800000 in
theorem exceeds_c{a3:Option Addr}{a4:Nat}{ax:Option Addr}{a2:Nat}(p:PrgT)(hs:HS (.of H []) F H [] R)(b3:SR F (sL ax p.arrs.length a2) p.arrs)(a8:SR F (sL a3 p.funs.length a4) p.funs)(hn:SmP p):kKt ex 67 [(aG [(sL ax p.arrs.length a2),(sL a3 p.funs.length a4)])] H fun v H'=> ∃(x:Bool) (F':Fz),Fz.le F F'/\HS (.of H []) F' H' [] R/\v= .bool x/\x=exL p:=by
 obtain⟨hw,hx,hq⟩:=hn;refine aB Try.func67 rfl rfl (ao 1 rfl (ab (aJ (dm hs rfl rfl) rfl rfl ?_)));rintro _ H2 _ ⟨b1,rfl,(dn:HS _ _ _ [(fP b1 [(sL ax p.arrs.length a2),(sL a3 p.funs.length a4)])] _),_⟩;refine za (.bool false) (ag 3 rfl (wR 1 [(1,.o (sL ax p.arrs.length a2)),(6,.o (sL a3 p.funs.length a4))] 9 18 [] [(18,(.bool ((decide ((4:Int)<(p.arrs.length:Int)))||(decide ((8:Int)<(p.funs.length:Int))))))] (vA (ql 36 0 (HS.hc dn (i:=0) rfl) rfl rfl) (vA (fun(g1:(decide ((4:Int)<(p.arrs.length:Int)))=false)=>(ql 37 1 (HS.hc dn (i:=0) rfl) rfl rfl)) trivial)) rfl fun _=>zi 1 3 (fun c4=>?_) fun c4=>?_))
 ·try simp only[BS]at c4
  have ci:=c4;refine wT 1 [] 2 2 [] [(2,(.bool true))] rfl fun _=>ah ⟨.inr rfl,_,rfl,true,_,fR,(HS.forget dn),rfl,(ex_1 ci).symm⟩
 try simp only[BS]at c4
 have ci:=c4;let d5:Fp:=(fP b1 [(sL ax p.arrs.length a2),(sL a3 p.funs.length a4)])
 refine wT 2 [] 1 0 [3] [(3,(iI 0))] rfl fun _=>au (fun(mm:Nat) f H'=> ∃(i:Nat) (F':Fz),Fz.le F F'/\HS (Base.of H []) F' H' [d5] R/\aX f [(1,(pT b1 0)),(3,(iI (i:Int)))]/\mm=p.arrs.length-i/\(p.arrs.any lnB=(p.arrs.drop i).any lnB)/\(i<=p.arrs.length)) _ ⟨0,_,fR,dn,⟨rfl,rfl,trivial⟩,rfl,(by rfl),(by omega)⟩ ?_
 rintro go f7 H7 ⟨i,F7,b5,a5,d7,rfl,h1,hi⟩ e2;refine aI _ d7 (fun _=>?_);clear d7;replace b3:=b3.mono b5;replace a8:=a8.mono b5;refine ao 2 rfl (wU 1 [(2,.o (sL ax p.arrs.length a2))] 19 23 [] [(23,(.bool (decide ((i:Int)<(p.arrs.length:Int)))))] (ql 36 0 (HS.hc a5 (i:=0) rfl) rfl rfl) rfl fun _=>zd 4 6 (fun c9=>?_) fun c9=>?_)
 ·obtain⟨e9,c3⟩:=Sv.view (SR.sv b3 a5);have e3:=ArrT.fx (c3 i);refine wR 1 [(1,.o (sL ax p.arrs.length a2)),(5,.o (iI (p.arrs.getD i default).len)),(9,.o (sL ax p.arrs.length a2)),(13,.o (iI (p.arrs.getD i default).len))] 26 41 [] [(41,(.bool ((decide ((p.arrs.getD i default).len<1))||(decide ((16:Int)<(p.arrs.getD i default).len)))))] (vA (ql 36 0 (HS.hc a5 (i:=0) rfl) rfl rfl) (vA (Sv.ix (j:=(i:Int)) (SR.sv b3 a5)) (vA (ql 3 1 (ArrT.vw (c3 i)) rfl rfl) (vA (fun(g1:(decide ((p.arrs.getD i default).len<1))=false)=>(ql 36 0 (HS.hc a5 (i:=0) rfl) rfl rfl)) (vA (fun(g1:(decide ((p.arrs.getD i default).len<1))=false)=>(Sv.ix (j:=(i:Int)) (SR.sv b3 a5) (by(try simp only[BS]at g1);(first|omega|(dsimp only;omega))) (by(try simp only[BS]at g1);(first|omega|(dsimp only;omega))))) (vA (fun(g1:(decide ((p.arrs.getD i default).len<1))=false)=>(ql 3 1 (ArrT.vw (c3 i) (by(try simp only[BS]at g1);(first|omega|(dsimp only;omega)))) rfl rfl)) trivial)))))) rfl fun _=>zi 1 2 (fun b9=>?_) fun b9=>?_
  ·try simp only[BS]at b9
   have ds:=ar_y (l:=p.arrs) (i:=i) (by omega) b9;refine wT 1 [] 2 2 [] [(2,(.bool true))] rfl fun _=>ah ⟨.inr rfl,_,rfl,true,_,(b5),(HS.forget a5),rfl,(ex_2 ci h1 ds).symm⟩
  try simp only[BS]at b9
  have gs:=ar_n (l:=p.arrs) (i:=i) (by omega) b9;refine wU 1 [] 24 25 [3] [(3,(iI ((i:Int)+1)))] (vi (n:=(i:Int)+1)) rfl fun _=>?_
  refine e2 _ _ _ ?_ ⟨i+1,_,(b5),a5,⟨rfl,rfl,trivial⟩,rfl,(h1.trans gs),(by omega)⟩;omega
 have h2:=h1.trans (any_end (by omega));refine wT 2 [] 1 0 [4] [(4,(iI 0))] rfl fun _=>au (fun(mm:Nat) f H'=> ∃(i:Nat) (F':Fz),Fz.le F7 F'/\HS (Base.of H []) F' H' [d5] R/\aX f [(1,(pT b1 0)),(4,(iI (i:Int)))]/\mm=p.funs.length-i/\(dpG p.funs=dpG (p.funs.drop i))/\(i<=p.funs.length)) _ ⟨0,_,fR,a5,⟨rfl,rfl,trivial⟩,rfl,(by rfl),(by omega)⟩ ?_
 rintro fb f9 fl ⟨i,fd,b6,a9,d2,rfl,g1,hk⟩ et;refine aI _ d2 (fun _=>?_);clear d2;replace a8:=a8.mono b6;refine ao 2 rfl (wU 1 [(2,.o (sL a3 p.funs.length a4))] 42 46 [] [(46,(.bool (decide ((i:Int)<(p.funs.length:Int)))))] (ql 37 1 (HS.hc a9 (i:=0) rfl) rfl rfl) rfl fun _=>zd 4 5 (fun e0=>?_) fun e0=>?_)
 ·have hv:=hq (p.funs.getD i default) (cW (by omega));refine ab ?_;obtain⟨E,d4⟩:=Sv.view (SR.sv a8 a9);obtain⟨e4,e5,e6,b7,b8,b0,a6⟩:=FunT.fx (d4 i);let d8:Value:=(aG [(tX (p.funs.getD i default).name.b),(sL (cA (E i) 1) (p.funs.getD i default).pars.length (cK (E i) 1)),(sL (cA (E i) 2) (p.funs.getD i default).locs.length (cK (E i) 2)),(sL (cA (E i) 3) (p.funs.getD i default).body.length (cK (E i) 3)),(iI (p.funs.getD i default).val.kind),(iI (p.funs.getD i default).val.n),(tX (p.funs.getD i default).val.name.b),(iI (p.funs.getD i default).val.op),(sL (cA (E i) 8) (p.funs.getD i default).val.kids.length (cK (E i) 8))])
  refine wRo 5 0 [(1,.o (sL a3 p.funs.length a4)),(4,.o d8)] 49 53 [] [(53,d8)] (vA (ql 37 1 (HS.hc a9 (i:=0) rfl) rfl rfl) (vA (Sv.ix (j:=(i:Int)) (SR.sv a8 a9)) (vA (qn 52 0 9 (FunT.vw (d4 i)) rfl rfl rfl rfl) trivial))) rfl fun _=>aJ (aZ a9 rfl) rfl rfl ?_
  rintro _ fu _ ⟨b2,rfl,(em:HS _ _ _ [_,(fP b2 [(tX []),(sL none 0 0),(sL none 0 0),(sL none 0 0),(iI 0),(iI 0),(tX []),(iI 0),(sL none 0 0)])] _),_⟩;refine aF (aq (q:=1) em rfl rfl rfl rfl rfl rfl rfl rfl rfl) rfl ?_;rintro _ f1 _ ⟨(cL:HS _ _ _ [_,(fP b2 [(tX (p.funs.getD i default).name.b),(sL (cA (E i) 1) (p.funs.getD i default).pars.length (cK (E i) 1)),(sL (cA (E i) 2) (p.funs.getD i default).locs.length (cK (E i) 2)),(sL (cA (E i) 3) (p.funs.getD i default).body.length (cK (E i) 3)),(iI (p.funs.getD i default).val.kind),(iI (p.funs.getD i default).val.n),(tX (p.funs.getD i default).val.name.b),(iI (p.funs.getD i default).val.op),(sL (cA (E i) 8) (p.funs.getD i default).val.kids.length (cK (E i) 8))])] _),_⟩;refine ag 2 rfl (ab (wUo 2 0 [(1,.o (sL (cA (E i) 3) (p.funs.getD i default).body.length (cK (E i) 3)))] 55 56 [] [(56,(sL (cA (E i) 3) (p.funs.getD i default).body.length (cK (E i) 3)))] (ql 47 3 (HS.hc cL (i:=1) rfl) rfl rfl) rfl fun _=>zc (count_c ex (p.funs.getD i default).body 0 (HS.call cL) b0 (by omega)) ?_));rintro _ f2 ⟨g2,g3,f6,ez,a7,O,rfl,rfl,rfl,rfl⟩;replace O:HS _ _ _ [_,_] _:=HS.back cL rfl O;replace b7:=b7.mono a7;replace b8:=b8.mono a7;replace b0:=b0.mono a7;replace a6:=a6.mono a7;refine wTo 7 3 [] 58 60 [6,7,8,54] [(6,(iI ((nSs (p.funs.getD i default).body:Nat):Int))),(7,(iI ((wSs (p.funs.getD i default).body:Nat):Int))),(8,(iI ((dSs (p.funs.getD i default).body 0:Nat):Int)))] rfl fun _=>ag 2 rfl (dV 61 93 [] [(93,(.bool (((((((decide ((6:Int)<((p.funs.getD i default).pars.length:Int)))||(decide ((8:Int)<((p.funs.getD i default).locs.length:Int))))||(decide ((200:Int)<((nSs (p.funs.getD i default).body:Nat):Int))))||(decide ((16:Int)<((wSs (p.funs.getD i default).body:Nat):Int))))||(decide ((20:Int)<((dSs (p.funs.getD i default).body 0:Nat):Int))))||dl (p.funs.getD i default).body)||(decide ((20:Int)<((dpE (⟨(p.funs.getD i default).val.kind,(p.funs.getD i default).val.n,⟨(p.funs.getD i default).val.name.b⟩,(p.funs.getD i default).val.op,(p.funs.getD i default).val.kids⟩:ExpT):Nat):Int))))))] (fun H'=> ∃F',Fz.le ez F'/\HS (Base.of H []) F' H' [d5,(fP b2 [(tX (p.funs.getD i default).name.b),(sL (cA (E i) 1) (p.funs.getD i default).pars.length (cK (E i) 1)),(sL (cA (E i) 2) (p.funs.getD i default).locs.length (cK (E i) 2)),(sL (cA (E i) 3) (p.funs.getD i default).body.length (cK (E i) 3)),(iI (p.funs.getD i default).val.kind),(iI (p.funs.getD i default).val.n),(tX (p.funs.getD i default).val.name.b),(iI (p.funs.getD i default).val.op),(sL (cA (E i) 8) (p.funs.getD i default).val.kids.length (cK (E i) 8))])] R) ?_ ?_)
  ·refine ab (ai (v:=(pT b2 1)) (dx rfl rfl) rfl rfl (ai (v:=(sL (cA (E i) 1) (p.funs.getD i default).pars.length (cK (E i) 1))) (cp (i:=1) rfl rfl (HS.hc O (i:=1) rfl) rfl rfl) rfl rfl (ai (v:=(iI ((p.funs.getD i default).pars.length:Int))) (iN (α:=Str) rfl rfl (SR.sv b7 O)) rfl rfl (ai (v:=(.bool (decide ((6:Int)<((p.funs.getD i default).pars.length:Int))))) (bH rfl rfl rfl rfl) rfl rfl (zm (.bool (decide ((6:Int)<((p.funs.getD i default).pars.length:Int)))) ?_)))));refine dj (v:=(decide ((6:Int)<((p.funs.getD i default).pars.length:Int)))) rfl rfl (fun T=>?_) (fun T=>?_)
   ·have c5:=T;try simp only[BS]at c5
    refine ai (v:=(pT b2 2)) (dx rfl rfl) rfl rfl (aU rfl T (ai (v:=(sL (cA (E i) 2) (p.funs.getD i default).locs.length (cK (E i) 2))) (cp (i:=2) rfl rfl (HS.hc O (i:=1) rfl) rfl rfl) rfl rfl (aU rfl T (ai (v:=(iI ((p.funs.getD i default).locs.length:Int))) (iN (α:=Str) rfl rfl (SR.sv b8 O)) rfl rfl (aU rfl T ?_)))));refine ai (v:=(.bool (decide ((8:Int)<((p.funs.getD i default).locs.length:Int))))) (bH rfl rfl rfl rfl) rfl rfl (ai (v:=(.bool (decide ((8:Int)<((p.funs.getD i default).locs.length:Int))))) (aV rfl T rfl) rfl rfl (zm (.bool (decide ((8:Int)<((p.funs.getD i default).locs.length:Int)))) (dj (v:=(decide ((8:Int)<((p.funs.getD i default).locs.length:Int)))) rfl rfl (fun U=>?_) (fun U=>?_))))
    ·have c6:=U;try simp only[BS]at c6
     refine zm (iI ((nSs (p.funs.getD i default).body:Nat):Int)) (aU rfl U (ai (v:=(.bool (decide ((200:Int)<((nSs (p.funs.getD i default).body:Nat):Int))))) (bH rfl rfl rfl rfl) rfl rfl (ai (v:=(.bool (decide ((200:Int)<((nSs (p.funs.getD i default).body:Nat):Int))))) (aV rfl U rfl) rfl rfl (zm (.bool (decide ((200:Int)<((nSs (p.funs.getD i default).body:Nat):Int)))) (dj (v:=(decide ((200:Int)<((nSs (p.funs.getD i default).body:Nat):Int)))) rfl rfl (fun Z=>?_) (fun Z=>?_))))))
     ·have c7:=Z;try simp only[BS]at c7
      refine zm (iI ((wSs (p.funs.getD i default).body:Nat):Int)) (aU rfl Z (ai (v:=(.bool (decide ((16:Int)<((wSs (p.funs.getD i default).body:Nat):Int))))) (bH rfl rfl rfl rfl) rfl rfl (ai (v:=(.bool (decide ((16:Int)<((wSs (p.funs.getD i default).body:Nat):Int))))) (aV rfl Z rfl) rfl rfl (zm (.bool (decide ((16:Int)<((wSs (p.funs.getD i default).body:Nat):Int)))) (dj (v:=(decide ((16:Int)<((wSs (p.funs.getD i default).body:Nat):Int)))) rfl rfl (fun a1=>?_) (fun a1=>?_))))))
      ·have c8:=a1;try simp only[BS]at c8
       refine zm (iI ((dSs (p.funs.getD i default).body 0:Nat):Int)) (aU rfl a1 (ai (v:=(.bool (decide ((20:Int)<((dSs (p.funs.getD i default).body 0:Nat):Int))))) (bH rfl rfl rfl rfl) rfl rfl (ai (v:=(.bool (decide ((20:Int)<((dSs (p.funs.getD i default).body 0:Nat):Int))))) (aV rfl a1 rfl) rfl rfl (zm (.bool (decide ((20:Int)<((dSs (p.funs.getD i default).body 0:Nat):Int)))) (dj (v:=(decide ((20:Int)<((dSs (p.funs.getD i default).body 0:Nat):Int)))) rfl rfl (fun an=>?_) (fun an=>?_))))))
       ·have dd:=an;try simp only[BS]at dd
        refine ai (v:=(pT b2 3)) (dx rfl rfl) rfl rfl (aU rfl an (ai (v:=(sL (cA (E i) 3) (p.funs.getD i default).body.length (cK (E i) 3))) (cp (i:=3) rfl rfl (HS.hc O (i:=1) rfl) rfl rfl) rfl rfl (aU rfl an (zc (tooDeep_c ex (p.funs.getD i default).body (HS.call O) b0 (by omega)) ?_))));rintro _ f4 ⟨g4,fi,co,bb,rfl,rfl⟩;replace bb:HS _ _ _ [_,_] _:=HS.back O rfl bb;replace a6:=a6.mono co;refine ai (v:=(.bool (dl (p.funs.getD i default).body))) (aV rfl an rfl) rfl rfl (zm (.bool (dl (p.funs.getD i default).body)) (dj (v:=(dl (p.funs.getD i default).body)) rfl rfl (fun Y=>?_) (fun Y=>?_)))
        ·have dk:=Y;try simp only[BS]at dk
         refine ai (v:=(pT b2 4)) (dx rfl rfl) rfl rfl (aU rfl Y (ai (v:=(aG [(iI (p.funs.getD i default).val.kind),(iI (p.funs.getD i default).val.n),(tX (p.funs.getD i default).val.name.b),(iI (p.funs.getD i default).val.op),(sL (cA (E i) 8) (p.funs.getD i default).val.kids.length (cK (E i) 8))])) (bL (i:=4) rfl rfl rfl (HS.hc bb (i:=1) rfl) rfl rfl rfl) rfl rfl (aU rfl Y (zc (m7 ex (⟨(p.funs.getD i default).val.kind,(p.funs.getD i default).val.n,⟨(p.funs.getD i default).val.name.b⟩,(p.funs.getD i default).val.op,(p.funs.getD i default).val.kids⟩:ExpT) (HS.call bb) (by omega) (by omega) (by omega) a6 (by(simp only[bc];omega))) ?_))));rintro _ f5 ⟨g5,fk,ea,c0,rfl,rfl⟩;replace c0:HS _ _ _ [_,_] _:=HS.back bb rfl c0;refine aU rfl Y (ai (v:=(.bool (decide ((20:Int)<((dpE (⟨(p.funs.getD i default).val.kind,(p.funs.getD i default).val.n,⟨(p.funs.getD i default).val.name.b⟩,(p.funs.getD i default).val.op,(p.funs.getD i default).val.kids⟩:ExpT):Nat):Int))))) (bH rfl rfl rfl rfl) rfl rfl (ai (v:=(.bool (decide ((20:Int)<((dpE (⟨(p.funs.getD i default).val.kind,(p.funs.getD i default).val.n,⟨(p.funs.getD i default).val.name.b⟩,(p.funs.getD i default).val.op,(p.funs.getD i default).val.kids⟩:ExpT):Nat):Int))))) (aV rfl Y rfl) rfl rfl (aH ?_)));exact ay ⟨rfl,⟨_,(fT (fT fR co) ea),HS.sub c0 (List.Sublist.refl _)⟩,(by repeat' first|exact Lr|refine Lu rfl ?_),(agC (congrArg Value.bool (show(decide ((20:Int)<((dpE (⟨(p.funs.getD i default).val.kind,(p.funs.getD i default).val.n,⟨(p.funs.getD i default).val.name.b⟩,(p.funs.getD i default).val.op,(p.funs.getD i default).val.kids⟩:ExpT):Nat):Int)))=(((((((decide ((6:Int)<((p.funs.getD i default).pars.length:Int)))||(decide ((8:Int)<((p.funs.getD i default).locs.length:Int))))||(decide ((200:Int)<((nSs (p.funs.getD i default).body:Nat):Int))))||(decide ((16:Int)<((wSs (p.funs.getD i default).body:Nat):Int))))||(decide ((20:Int)<((dSs (p.funs.getD i default).body 0:Nat):Int))))||dl (p.funs.getD i default).body)||(decide ((20:Int)<((dpE (⟨(p.funs.getD i default).val.kind,(p.funs.getD i default).val.n,⟨(p.funs.getD i default).val.name.b⟩,(p.funs.getD i default).val.op,(p.funs.getD i default).val.kids⟩:ExpT):Nat):Int)))) by simp only[↓T,↓U,↓Z,↓a1,↓an,↓Y,BT])) agN)⟩
        have dk:=Y;try simp only[BS]at dk
        refine aw rfl Y rfl (aw rfl Y rfl (aw rfl Y rfl (ai (v:=(.bool true)) (aD rfl Y rfl) rfl rfl (aH ?_))));exact ay ⟨rfl,⟨_,(fT fR co),HS.sub bb (List.Sublist.refl _)⟩,(by repeat' first|exact Lr|refine Lu rfl ?_),(agC (congrArg Value.bool (show true=(((((((decide ((6:Int)<((p.funs.getD i default).pars.length:Int)))||(decide ((8:Int)<((p.funs.getD i default).locs.length:Int))))||(decide ((200:Int)<((nSs (p.funs.getD i default).body:Nat):Int))))||(decide ((16:Int)<((wSs (p.funs.getD i default).body:Nat):Int))))||(decide ((20:Int)<((dSs (p.funs.getD i default).body 0:Nat):Int))))||dl (p.funs.getD i default).body)||(decide ((20:Int)<((dpE (⟨(p.funs.getD i default).val.kind,(p.funs.getD i default).val.n,⟨(p.funs.getD i default).val.name.b⟩,(p.funs.getD i default).val.op,(p.funs.getD i default).val.kids⟩:ExpT):Nat):Int)))) by simp only[↓T,↓U,↓Z,↓a1,↓an,↓Y,BT])) agN)⟩
       have dd:=an;try simp only[BS]at dd
       refine aw rfl an rfl (aw rfl an rfl (ai (v:=(.bool true)) (aD rfl an rfl) rfl rfl (zm (.bool true) (aw rfl rfl rfl (aw rfl rfl rfl ?_)))));refine aw rfl rfl rfl (aw rfl rfl rfl (ai (v:=(.bool true)) (aD rfl rfl rfl) rfl rfl (aH ?_)));exact ay ⟨rfl,⟨_,fR,HS.sub O (List.Sublist.refl _)⟩,(by repeat' first|exact Lr|refine Lu rfl ?_),(agC (congrArg Value.bool (show true=(((((((decide ((6:Int)<((p.funs.getD i default).pars.length:Int)))||(decide ((8:Int)<((p.funs.getD i default).locs.length:Int))))||(decide ((200:Int)<((nSs (p.funs.getD i default).body:Nat):Int))))||(decide ((16:Int)<((wSs (p.funs.getD i default).body:Nat):Int))))||(decide ((20:Int)<((dSs (p.funs.getD i default).body 0:Nat):Int))))||dl (p.funs.getD i default).body)||(decide ((20:Int)<((dpE (⟨(p.funs.getD i default).val.kind,(p.funs.getD i default).val.n,⟨(p.funs.getD i default).val.name.b⟩,(p.funs.getD i default).val.op,(p.funs.getD i default).val.kids⟩:ExpT):Nat):Int)))) by simp only[↓T,↓U,↓Z,↓a1,↓an,BT])) agN)⟩
      have c8:=a1;try simp only[BS]at c8
      refine aw rfl a1 rfl (ai (v:=(.bool true)) (aD rfl a1 rfl) rfl rfl (zm (.bool true) (aw rfl rfl rfl (aw rfl rfl rfl (aw rfl rfl rfl ?_)))));refine ai (v:=(.bool true)) (aD rfl rfl rfl) rfl rfl (zm (.bool true) (aw rfl rfl rfl (aw rfl rfl rfl (aw rfl rfl rfl (aw rfl rfl rfl ?_)))));refine ai (v:=(.bool true)) (aD rfl rfl rfl) rfl rfl (aH ?_);exact ay ⟨rfl,⟨_,fR,HS.sub O (List.Sublist.refl _)⟩,(by repeat' first|exact Lr|refine Lu rfl ?_),(agC (congrArg Value.bool (show true=(((((((decide ((6:Int)<((p.funs.getD i default).pars.length:Int)))||(decide ((8:Int)<((p.funs.getD i default).locs.length:Int))))||(decide ((200:Int)<((nSs (p.funs.getD i default).body:Nat):Int))))||(decide ((16:Int)<((wSs (p.funs.getD i default).body:Nat):Int))))||(decide ((20:Int)<((dSs (p.funs.getD i default).body 0:Nat):Int))))||dl (p.funs.getD i default).body)||(decide ((20:Int)<((dpE (⟨(p.funs.getD i default).val.kind,(p.funs.getD i default).val.n,⟨(p.funs.getD i default).val.name.b⟩,(p.funs.getD i default).val.op,(p.funs.getD i default).val.kids⟩:ExpT):Nat):Int)))) by simp only[↓T,↓U,↓Z,↓a1,BT])) agN)⟩
     have c7:=Z;try simp only[BS]at c7
     refine aw rfl Z rfl (ai (v:=(.bool true)) (aD rfl Z rfl) rfl rfl (zm (.bool true) (aw rfl rfl rfl (aw rfl rfl rfl (ai (v:=(.bool true)) (aD rfl rfl rfl) rfl rfl ?_)))));refine zm (.bool true) (aw rfl rfl rfl (aw rfl rfl rfl (aw rfl rfl rfl (ai (v:=(.bool true)) (aD rfl rfl rfl) rfl rfl (zm (.bool true) ?_)))));refine aw rfl rfl rfl (aw rfl rfl rfl (aw rfl rfl rfl (aw rfl rfl rfl (ai (v:=(.bool true)) (aD rfl rfl rfl) rfl rfl (aH ?_)))));exact ay ⟨rfl,⟨_,fR,HS.sub O (List.Sublist.refl _)⟩,(by repeat' first|exact Lr|refine Lu rfl ?_),(agC (congrArg Value.bool (show true=(((((((decide ((6:Int)<((p.funs.getD i default).pars.length:Int)))||(decide ((8:Int)<((p.funs.getD i default).locs.length:Int))))||(decide ((200:Int)<((nSs (p.funs.getD i default).body:Nat):Int))))||(decide ((16:Int)<((wSs (p.funs.getD i default).body:Nat):Int))))||(decide ((20:Int)<((dSs (p.funs.getD i default).body 0:Nat):Int))))||dl (p.funs.getD i default).body)||(decide ((20:Int)<((dpE (⟨(p.funs.getD i default).val.kind,(p.funs.getD i default).val.n,⟨(p.funs.getD i default).val.name.b⟩,(p.funs.getD i default).val.op,(p.funs.getD i default).val.kids⟩:ExpT):Nat):Int)))) by simp only[↓T,↓U,↓Z,BT])) agN)⟩
    have c6:=U;try simp only[BS]at c6
    refine aw rfl U rfl (ai (v:=(.bool true)) (aD rfl U rfl) rfl rfl (zm (.bool true) (aw rfl rfl rfl (aw rfl rfl rfl (ai (v:=(.bool true)) (aD rfl rfl rfl) rfl rfl ?_)))));refine zm (.bool true) (aw rfl rfl rfl (aw rfl rfl rfl (ai (v:=(.bool true)) (aD rfl rfl rfl) rfl rfl (zm (.bool true) (aw rfl rfl rfl ?_)))));refine aw rfl rfl rfl (aw rfl rfl rfl (ai (v:=(.bool true)) (aD rfl rfl rfl) rfl rfl (zm (.bool true) (aw rfl rfl rfl (aw rfl rfl rfl ?_)))));refine aw rfl rfl rfl (aw rfl rfl rfl (ai (v:=(.bool true)) (aD rfl rfl rfl) rfl rfl (aH ?_)));exact ay ⟨rfl,⟨_,fR,HS.sub O (List.Sublist.refl _)⟩,(by repeat' first|exact Lr|refine Lu rfl ?_),(agC (congrArg Value.bool (show true=(((((((decide ((6:Int)<((p.funs.getD i default).pars.length:Int)))||(decide ((8:Int)<((p.funs.getD i default).locs.length:Int))))||(decide ((200:Int)<((nSs (p.funs.getD i default).body:Nat):Int))))||(decide ((16:Int)<((wSs (p.funs.getD i default).body:Nat):Int))))||(decide ((20:Int)<((dSs (p.funs.getD i default).body 0:Nat):Int))))||dl (p.funs.getD i default).body)||(decide ((20:Int)<((dpE (⟨(p.funs.getD i default).val.kind,(p.funs.getD i default).val.n,⟨(p.funs.getD i default).val.name.b⟩,(p.funs.getD i default).val.op,(p.funs.getD i default).val.kids⟩:ExpT):Nat):Int)))) by simp only[↓T,↓U,BT])) agN)⟩
   have c5:=T;try simp only[BS]at c5
   refine aw rfl T rfl (aw rfl T rfl (aw rfl T rfl (ai (v:=(.bool true)) (aD rfl T rfl) rfl rfl (zm (.bool true) (aw rfl rfl rfl ?_)))));refine aw rfl rfl rfl (ai (v:=(.bool true)) (aD rfl rfl rfl) rfl rfl (zm (.bool true) (aw rfl rfl rfl (aw rfl rfl rfl (ai (v:=(.bool true)) (aD rfl rfl rfl) rfl rfl ?_)))));refine zm (.bool true) (aw rfl rfl rfl (aw rfl rfl rfl (ai (v:=(.bool true)) (aD rfl rfl rfl) rfl rfl (zm (.bool true) (aw rfl rfl rfl ?_)))));refine aw rfl rfl rfl (aw rfl rfl rfl (ai (v:=(.bool true)) (aD rfl rfl rfl) rfl rfl (zm (.bool true) (aw rfl rfl rfl (aw rfl rfl rfl ?_)))));refine aw rfl rfl rfl (aw rfl rfl rfl (ai (v:=(.bool true)) (aD rfl rfl rfl) rfl rfl (aH ?_)));exact ay ⟨rfl,⟨_,fR,HS.sub O (List.Sublist.refl _)⟩,(by repeat' first|exact Lr|refine Lu rfl ?_),(agC (congrArg Value.bool (show true=(((((((decide ((6:Int)<((p.funs.getD i default).pars.length:Int)))||(decide ((8:Int)<((p.funs.getD i default).locs.length:Int))))||(decide ((200:Int)<((nSs (p.funs.getD i default).body:Nat):Int))))||(decide ((16:Int)<((wSs (p.funs.getD i default).body:Nat):Int))))||(decide ((20:Int)<((dSs (p.funs.getD i default).body 0:Nat):Int))))||dl (p.funs.getD i default).body)||(decide ((20:Int)<((dpE (⟨(p.funs.getD i default).val.kind,(p.funs.getD i default).val.n,⟨(p.funs.getD i default).val.name.b⟩,(p.funs.getD i default).val.op,(p.funs.getD i default).val.kids⟩:ExpT):Nat):Int)))) by simp only[↓T,BT])) agN)⟩
  skip;rintro gm f3 ⟨ff,d1,d3⟩;refine ao 1 rfl (zi 1 2 (fun ch=>?_) fun ch=>?_)
  ·try simp only[BS]at ch
   have ds:=dg_y (l:=p.funs) (i:=i) (by omega) (by simpa only[bc] using ch);refine wT 1 [] 2 2 [] [(2,(.bool true))] rfl fun _=>ah ⟨.inr rfl,_,rfl,true,_,(fT (fT (fT (b5) b6) a7) d1),(HS.forget d3),rfl,(ex_3 ci h2 g1 ds).symm⟩
  try simp only[BS]at ch
  have gs:=dg_n (l:=p.funs) (i:=i) (by omega) (by simpa only[bc] using ch);refine wU 1 [] 47 48 [4] [(4,(iI ((i:Int)+1)))] (vi (n:=(i:Int)+1)) rfl fun _=>?_
  refine et _ _ _ ?_ ⟨i+1,_,(fT (fT (b6) a7) d1),(HS.sub d3 (a09 _ _)),⟨rfl,rfl,trivial⟩,rfl,(g1.trans gs),(by omega)⟩;omega
 refine wT 1 [] 2 2 [] [(2,(.bool false))] rfl fun _=>ah ⟨.inr rfl,_,rfl,false,_,(fT (b5) b6),(HS.forget a9),rfl,((ex_4 ci h2 (g1.trans (dg_e (by omega)))).symm)⟩
end Go.Proofs.Ytapgbjedgcpffaa.ca
