/-
The check of the reference: how large and how deep a program is, each function by a symbolic run. No condition but that the program has less than 2^62 parts.
-/
import Derived.Test.YtapgbjedgcpffaaZLL1
import Derived.Test.YtapgbjedgcpffaaZLPT
noncomputable section
namespace Go.Proofs.Ytapgbjedgcpffaa.ca
open Go.R
set_option maxRecDepth 10000
set_option linter.unusedVariables false
set_option linter.unusedSimpArgs false
variable (ex:FuncId) {F:Fz} {H:Heap} {R:List Fp}
open w3 l1 pt
instance :DecidableEq Str:=fun a b=>decidable_of_iff (a.b=b.b) ⟨fun h=>by cases a;cases b;simp_all,fun h=>by rw[h]⟩
mutual
def ndE:ExpT->Nat
 |⟨_,_,_,_,ks⟩=>1+fV ks
def fV:List ExpT->Nat
 | []=>0
 |e::l=>ndE e+fV l
end
mutual
def ndS:StmT->Nat
 |⟨_,_,_,_,a,v,ar,t,e⟩=>1+ndE a+ndE v+fV ar+er t+er e
def er:List StmT->Nat
 | []=>0
 |s::l=>ndS s+er l
end
mutual
def dpE:ExpT->Nat
 |⟨_,_,_,_,ks⟩=>iK ks
def iK:List ExpT->Nat
 | []=>0
 |e::l=>max (1+dpE e) (iK l)
end
mutual
def nS:StmT->Nat
 |⟨_,_,_,_,_,_,_,t,e⟩=>1+nSs t+nSs e
def nSs:List StmT->Nat
 | []=>0
 |s::l=>nS s+nSs l
end
mutual
def wS:StmT->Nat
 |⟨k,_,_,_,_,_,_,t,e⟩=>(if k=4 then 1 else 0)+wSs t+wSs e
def wSs:List StmT->Nat
 | []=>0
 |s::l=>wS s+wSs l
end
mutual
def dS:StmT->Nat->Nat
 |⟨_,_,_,_,_,_,_,t,e⟩,d=>max d (max (dSs t (d+1)) (dSs e (d+1)))
def dSs:List StmT->Nat->Nat
 | [],_=>0
 |s::l,d=>max (dS s d) (dSs l d)
end
mutual
def tdS:StmT->Bool
 |⟨_,_,_,_,a,v,ar,t,e⟩=>decide (20<dpE a)||decide (20<dpE v)||cW t||cW e||ar.any fun x=>decide (20<dpE x)
def cW:List StmT->Bool
 | []=>false
 |s::l=>tdS s||cW l
end
def inNm(s:List UInt8):Bool:=bD (s.getD 0 0)&&s.all bn&&decide (1<=s.length)&&decide (s.length<=16)
def vnm(s:List UInt8):Bool:=inNm s&& !gv s
def binO(o:Int):Bool:=decide (4<=o)&&decide (o<=18)
def wfN(k n:Int)(h:List UInt8)(o c:Int):Bool:=
 if k=1 then(((c==0)&&(h==[]))&&(o==0))
 else if k=2 then((((c==0)&&(n==0))&&(o==0))&&vnm h)
 else if k=3 then((((c==1)&&(n==0))&&(o==0))&&vnm h)
 else if k=4 then(((n==0)&&(h==[]))&&(((c==2)&&binO o)||((c==1)&&((o==20)||(o==21)))))
 else if k=5 then((((c==3)&&(n==0))&&(h==[]))&&(o==0))
 else false
mutual
def wfE:ExpT->Bool
 |⟨k,n,nm,o,ks⟩=>ey ks&&wfN k n nm.b o (ks.length:Int)
def ey:List ExpT->Bool
 | []=>true
 |e::l=>wfE e&&ey l
end
def isZ(e:ExpT):Bool:=(((((e.kind==0)&&(e.n==0))&&(e.name.b==[]))&&(e.op==0))&&((e.kids.length:Int)==0))
def onV(s:StmT):Bool:=(((((s.name.b==[])&&(s.to.b==[]))&&(s.n==0))&&isZ s.at_)&&((s.args.length:Int)==0))
def flS(s:StmT):Bool:=((s.thn.length:Int)==0)&&((s.els.length:Int)==0)
def wfK(s:StmT):Bool:=
 if s.kind=1 then((((((flS s&&vnm s.name.b)&&(s.to.b==[]))&&(s.n==0))&&isZ s.at_)&&((s.args.length:Int)==0))&&wfE s.val)
 else if s.kind=2 then((((((flS s&&vnm s.name.b)&&(s.to.b==[]))&&(s.n==0))&&wfE s.at_)&&((s.args.length:Int)==0))&&wfE s.val)
 else if s.kind=3 then(onV s&&wfE s.val)
 else if s.kind=4 then((onV s&&wfE s.val)&&((s.els.length:Int)==0))
 else if s.kind=5 then((flS s&&onV s)&&wfE s.val)
 else if s.kind=6 then(((((flS s&&vnm s.name.b)&&vnm s.to.b)&&(s.n==0))&&isZ s.at_)&&isZ s.val)
 else if s.kind=7 then(((((((flS s&&(s.name.b==[]))&&(s.to.b==[]))&&decide (0<=s.n))&&decide (s.n<=1000000))&&isZ s.at_)&&isZ s.val)&&((s.args.length:Int)==0))
 else false
mutual
def wfS:StmT->Bool
 |⟨k,nm,to,n,a,v,ar,t,e⟩=>ey ar&&wfK ⟨k,nm,to,n,a,v,ar,t,e⟩&&dm t&&dm e
def dm:List StmT->Bool
 | []=>true
 |s::l=>wfS s&&dm l
end
def dpG:List FunT->Bool
 | []=>false
 |f::l=>(decide (6<f.pars.length)||decide (8<f.locs.length)||decide (200<nSs f.body)||decide (16<wSs f.body)||decide (20<dSs f.body 0)||cW f.body||decide (20<dpE f.val))||dpG l
def exL(p:PrgT):Bool:=decide (4<p.arrs.length)||decide (8<p.funs.length)||(p.arrs.any fun a=>decide (a.len<1)||decide (16<a.len))||dpG p.funs
def wfF(f:FunT):Bool:=(([f.name]++f.pars++f.locs).all fun s=>vnm s.b)&&dm f.body&&wfE f.val
def wfP(p:PrgT):Bool:=(p.arrs.all fun a=>vnm a.name.b)&&p.funs.all wfF
def de(l:List Str)(s:List UInt8):Bool:=l.any fun x=>x.b==s
def im:List Str->List Str->Bool
 |_,[]=>false
 |seen,s::l=>de seen s.b||im (seen++[s]) l
def dupF(h:List Str):List Str->List FunT->Bool
 |_,[]=>false
 |fs,f::l=>de fs f.name.b||im h (f.pars++f.locs)||dupF h (fs++[f.name]) l
def dupP(p:PrgT):Bool:=im [] (p.arrs.map (·.name))||dupF (p.arrs.map (·.name)) [] p.funs
mutual
def dfE(vs aa:List Str):ExpT->Bool
 |⟨k,_,nm,_,ks⟩=>eO vs aa ks&&((k !=2)||de vs nm.b)&&((k !=3)||de aa nm.b)
def eO(vs aa:List Str):List ExpT->Bool
 | []=>true
 |e::l=>dfE vs aa e&&eO vs aa l
end
def ffN(s:List UInt8):List FunT->Nat->Int
 | [],_=> -1
 |f::l,i=>if f.name.b=s then(i:Int) else ffN s l (i+1)
def ffP(p:PrgT)(s:List UInt8):Int:=ffN s p.funs 0
def swK(vs aa:List Str)(p:PrgT)(s:StmT):Bool:=if s.kind=1 then de vs s.name.b else if s.kind=6 then(de vs s.name.b&&decide (0<=ffP p s.to.b)) else if s.kind=2 then de aa s.name.b else true
def dfK(vs aa:List Str)(p:PrgT)(s:StmT):Bool:=eO vs aa s.args&&dfE vs aa s.at_&&dfE vs aa s.val&&swK vs aa p s
mutual
def dfS(vs aa:List Str)(p:PrgT):StmT->Bool
 |⟨k,nm,to,n,a,v,ar,t,e⟩=>dfK vs aa p ⟨k,nm,to,n,a,v,ar,t,e⟩&&i0 vs aa p t&&i0 vs aa p e
def i0(vs aa:List Str)(p:PrgT):List StmT->Bool
 | []=>true
 |s::l=>dfS vs aa p s&&i0 vs aa p l
end
def arK(p:PrgT)(s:StmT):Bool:= !((s.kind==6)&&((s.args.length:Int) !=((p.funs.getD (ffP p s.to.b).toNat default).pars.length:Int)))
mutual
def arS(p:PrgT):StmT->Bool
 |⟨k,nm,to,n,a,v,ar,t,e⟩=>arK p ⟨k,nm,to,n,a,v,ar,t,e⟩&&arSs p t&&arSs p e
def arSs(p:PrgT):List StmT->Bool
 | []=>true
 |s::l=>arS p s&&arSs p l
end
def arN(p:PrgT):List Str:=p.arrs.map (·.name)
def dfF(p:PrgT)(f:FunT):Bool:=i0 (f.pars++f.locs) (arN p) p f.body&&dfE (f.pars++f.locs) (arN p) f.val
def arF(p:PrgT)(f:FunT):Bool:=arSs p f.body
def chk(p:PrgT):Int:=
 if exL p=true then 6 else if wfP p=false then 2 else if dupP p=true then 4
 else if p.funs.all (dfF p)=false then 3
 else if p.funs.all (arF p)=false then 5 else 0
theorem az(x:ExpT):(⟨x.kind,x.n,⟨x.name.b⟩,x.op,x.kids⟩:ExpT)=x:=by cases x;rfl
theorem cg{α:Type}{l:List α}{i:Nat}{d:α}(h:i<l.length):l.drop i=l.getD i d::l.drop (i+1):=by rw[a0P h,a0b,a0c h];rfl
theorem dg{α:Type}{l:List α}{i:Nat}(h:l.length<=i):l.drop i=[]:=a1m h
theorem nd_e(e:ExpT):ndE e=1+fV e.kids:=by cases e;rw[ndE]
theorem iC: ∀l:List ExpT,l.length<=fV l
 | []=>a0o _
 |e::l=>by have:=iC l;have:=nd_e e;rw[fV,a01];omega
theorem kU: ∀{l:List ExpT} {i:Nat},i<l.length->ndE (l.getD i default)<=fV l
 |e::l,0,_=>by rw[fV];exact a1q _ _
 |e::l,i+1,h=>by have:=kU (l:=l) (i:=i) (by simpa using h);rw[fV];exact a0e this (Nat.le_add_left _ _)
theorem dp_e(e:ExpT):dpE e=iK e.kids:=by cases e;rw[dpE]
theorem nd_mem: ∀{l:List ExpT} {x:ExpT},x∈l->ndE x<=fV l
 |e::l,x,h=>by
  rw[fV];rcases a0l.1 h with rfl|h
  ·omega
  have:=nd_mem h;omega
theorem exI{P:ExpT->Prop}(h: ∀e:ExpT,(∀x∈e.kids,P x)->P e): ∀(n:Nat) (e:ExpT),ndE e<=n->P e
 |0,e,q=>by rw[nd_e]at q;omega
 |n+1,e,q=>h e fun x E=>exI h n x (by have:=nd_mem E;rw[nd_e]at q;omega)
theorem dps_le: ∀{l:List ExpT},(∀x∈l,dpE x<ndE x)->iK l<=fV l
 | [],_=>a0o _
 |e::l,h=>by
  rw[iK,fV];have:=h e (a1e ..);have:=dps_le (l:=l) fun x E=>h x (a0u _ E)
  omega
theorem dp_le(e:ExpT):dpE e<ndE e:=exI (P:=fun e=>dpE e<ndE e) (fun e h=>by rw[dp_e,nd_e];have:=dps_le h;omega) _ e (a07 _)
theorem dp_drop{l:List ExpT}{i:Nat}(h:i<l.length):iK (l.drop i)=max (1+dpE (l.getD i default)) (iK (l.drop (i+1))):=by rw[cg (d:=default) h,iK]
theorem dp_end{l:List ExpT}{i:Nat}(h:l.length<=i):iK (l.drop i)=0:=by rw[dg h,iK]
theorem ns_s(s:StmT):ndS s=1+ndE s.at_+ndE s.val+fV s.args+er s.thn+er s.els:=by cases s;rw[ndS]
theorem j7: ∀l:List StmT,l.length<=er l
 | []=>a0o _
 |s::l=>by have:=j7 l;have:=ns_s s;rw[er,a01];omega
theorem ns_at: ∀{l:List StmT} {i:Nat},i<l.length->ndS (l.getD i default)<=er l
 |e::l,0,_=>by rw[er];exact a1q _ _
 |e::l,i+1,h=>by have:=ns_at (l:=l) (i:=i) (by simpa using h);rw[er];exact a0e this (Nat.le_add_left _ _)
theorem n_s(s:StmT):nS s=1+nSs s.thn+nSs s.els:=by cases s;rw[nS]
theorem w_s(s:StmT):wS s=(if s.kind=4 then 1 else 0)+wSs s.thn+wSs s.els:=by cases s;rw[wS]
theorem d_s(s:StmT)(d:Nat):dS s d=max d (max (dSs s.thn (d+1)) (dSs s.els (d+1))):=by cases s;rw[dS]
theorem ns_mem: ∀{l:List StmT} {x:StmT},x∈l->ndS x<=er l
 |e::l,x,h=>by
  rw[er];rcases a0l.1 h with rfl|h
  ·omega
  have:=ns_mem h;omega
theorem stI{P:StmT->Prop}(h: ∀s:StmT,(∀x∈s.thn,P x)->(∀x∈s.els,P x)->P s): ∀(n:Nat) (s:StmT),ndS s<=n->P s
 |0,s,q=>by rw[ns_s]at q;omega
 |n+1,s,q=>h s (fun x E=>stI h n x (by have:=ns_mem E;rw[ns_s]at q;omega)) fun x E=>stI h n x (by have:=ns_mem E;rw[ns_s]at q;omega)
theorem nwd_l: ∀{l:List StmT},(∀s∈l,nS s<=ndS s/\wS s<=ndS s/\∀d,dS s d<=d+ndS s)->nSs l<=er l/\wSs l<=er l/\∀d,dSs l d<=d+er l
 | [],_=>⟨a07 _,a07 _,fun _=>a0o _⟩
 |s::l,h=>by
  obtain⟨T,U,E⟩:=h s (a1e ..);obtain⟨Y,Z,O⟩:=nwd_l (l:=l) fun x hx=>h x (a0u _ hx)
  rw[nSs,wSs,er];refine⟨by omega,by omega,fun d=>?_⟩;rw[dSs];have:=E d;have:=O d;omega
theorem nwd_s(s:StmT):nS s<=ndS s/\wS s<=ndS s/\∀d,dS s d<=d+ndS s:=stI (P:=fun s=>nS s<=ndS s/\wS s<=ndS s/\∀d,dS s d<=d+ndS s) (fun s T U=>by
  obtain⟨Y,Z,E⟩:=nwd_l T;obtain⟨h,b2,O⟩:=nwd_l U;rw[n_s,w_s,ns_s];refine⟨by omega,by split<;>omega,fun d=>?_⟩;rw[d_s];have:=E (d+1);have:=O (d+1);omega) _ s (a07 _)
theorem n_le(l:List StmT):nSs l<=er l:=(nwd_l fun s _=>nwd_s s).1
theorem w_le(l:List StmT):wSs l<=er l:=(nwd_l fun s _=>nwd_s s).2.1
theorem d_le(l:List StmT)(d:Nat):dSs l d<=d+er l:=(nwd_l fun s _=>nwd_s s).2.2 d
theorem n_drop{l:List StmT}{i:Nat}(h:i<l.length):nSs (l.drop i)=1+nSs (l.getD i default).thn+nSs (l.getD i default).els+nSs (l.drop (i+1)):=by rw[cg (d:=default) h,nSs,n_s]
theorem w_drop{l:List StmT}{i:Nat}(h:i<l.length):wSs (l.drop i)=(if(l.getD i default).kind=4 then 1 else 0)+wSs (l.getD i default).thn+wSs (l.getD i default).els+wSs (l.drop (i+1)):=by rw[cg (d:=default) h,wSs,w_s]
theorem d_drop{l:List StmT}{i d:Nat}(h:i<l.length):dSs (l.drop i) d=max (max d (max (dSs (l.getD i default).thn (d+1)) (dSs (l.getD i default).els (d+1)))) (dSs (l.drop (i+1)) d):=by rw[cg (d:=default) h,dSs,d_s]
theorem td_s(s:StmT):tdS s=(decide (20<dpE s.at_)||decide (20<dpE s.val)||cW s.thn||cW s.els||s.args.any fun x=>decide (20<dpE x)):=by cases s;rw[tdS]
theorem td_drop{l:List StmT}{i:Nat}(h:i<l.length):cW (l.drop i)=((decide (20<dpE (l.getD i default).at_)||decide (20<dpE (l.getD i default).val)||cW (l.getD i default).thn||cW (l.getD i default).els||(l.getD i default).args.any fun x=>decide (20<dpE x))||cW (l.drop (i+1))):=by rw[cg (d:=default) h,cW,td_s]
theorem td_end{l:List StmT}{i:Nat}(h:l.length<=i):cW (l.drop i)=false:=by rw[dg h,cW]
theorem fZ{α:Type} [Inhabited α]{p:α->Bool}{l:List α}{i:Nat}(h:i<l.length):(l.drop i).any p=(p (l.getD i default)||(l.drop (i+1)).any p):=by rw[cg (d:=default) h,List.any_cons]
theorem lw{α:Type}{p:α->Bool}{l:List α}{i:Nat}(h:l.length<=i):(l.drop i).any p=false:=by rw[dg h,List.any_nil]
theorem all_drop{α:Type} [Inhabited α]{p:α->Bool}{l:List α}{i:Nat}(h:i<l.length):(l.drop i).all p=(p (l.getD i default)&&(l.drop (i+1)).all p):=by rw[cg (d:=default) h,a0M]
theorem fK{α:Type}{p:α->Bool}{l:List α}{i:Nat}(h:l.length<=i):(l.drop i).all p=true:=by rw[dg h,List.all_nil]
def anD(l:List ExpT)(b:Bool):Bool:=(l.any fun x=>decide (20<dpE x))||b
theorem td_y{l:List StmT}{i:Nat}(h:i<l.length)(c:(((20:Int)<(dpE (l.getD i default).at_:Int)\/(20:Int)<(dpE (l.getD i default).val:Int))\/cW (l.getD i default).thn=true)\/cW (l.getD i default).els=true):cW (l.drop i)=true:=by
 rw[td_drop h];rcases c with((c|c)|c)|c
 ·rw[decide_eq_true (show 20<dpE (l.getD i default).at_ by omega)];rfl
 ·rw[decide_eq_true (show 20<dpE (l.getD i default).val by omega),a1r];rfl
 ·rw[c,a1r];rfl
 rw[c,a1r];rfl
theorem td_n{l:List StmT}{i:Nat}(h:i<l.length)(c:((¬(20:Int)<(dpE (l.getD i default).at_:Int)/\¬(20:Int)<(dpE (l.getD i default).val:Int))/\cW (l.getD i default).thn=false)/\cW (l.getD i default).els=false):cW (l.drop i)=anD (l.getD i default).args (cW (l.drop (i+1))):=by rw[td_drop h,decide_eq_false (show ¬20<dpE (l.getD i default).at_ by omega),decide_eq_false (show ¬20<dpE (l.getD i default).val by omega),c.1.2,c.2];rfl
theorem an_y{l:List ExpT}{i:Nat}{b:Bool}(h:i<l.length)(c:(20:Int)<(dpE (l.getD i default):Int)):anD (l.drop i) b=true:=by unfold anD;rw[fZ h,decide_eq_true (show 20<dpE (l.getD i default) by omega)];rfl
theorem an_n{l:List ExpT}{i:Nat}{b:Bool}(h:i<l.length)(c: ¬(20:Int)<(dpE (l.getD i default):Int)):anD (l.drop i) b=anD (l.drop (i+1)) b:=by unfold anD;rw[fZ h,decide_eq_false (show ¬20<dpE (l.getD i default) by omega)];rfl
theorem an_e{l:List ExpT}{i:Nat}{b:Bool}(h:l.length<=i):anD (l.drop i) b=b:=by unfold anD;rw[lw h];rfl
def SmP(p:PrgT):Prop:=p.arrs.length<4611686018427387904/\p.funs.length<4611686018427387904/\∀f∈p.funs,f.pars.length<1000000000/\f.locs.length<1000000000/\er f.body<4611686018427387904/\ndE f.val<4611686018427387904
theorem dN{α:Type} [Inhabited α]{l:List α}{i:Nat}(h:i<l.length):l.getD i default∈l:=by rw[a0b,a0c h];exact a1k h
def lnB(a:ArrT):Bool:=decide (a.len<1)||decide (16<a.len)
theorem ar_y{l:List ArrT}{i:Nat}(h:i<l.length)(c:(l.getD i default).len<1\/16<(l.getD i default).len):(l.drop i).any lnB=true:=by rw[fZ h];unfold lnB;rcases c with c|c<;>rw[decide_eq_true c]<;>simp
theorem ar_n{l:List ArrT}{i:Nat}(h:i<l.length)(c: ¬(l.getD i default).len<1/\¬16<(l.getD i default).len):(l.drop i).any lnB=(l.drop (i+1)).any lnB:=by rw[fZ h];unfold lnB;rw[decide_eq_false c.1,decide_eq_false c.2];rfl
def dgB(f:FunT):Bool:=decide (6<f.pars.length)||decide (8<f.locs.length)||decide (200<nSs f.body)||decide (16<wSs f.body)||decide (20<dSs f.body 0)||cW f.body||decide (20<dpE f.val)
theorem dg_b{l:List FunT}{i:Nat}(h:i<l.length):dpG (l.drop i)=(dgB (l.getD i default)||dpG (l.drop (i+1))):=by rw[cg (d:=default) h,dpG];rfl
theorem dg_y{l:List FunT}{i:Nat}(h:i<l.length)(c:((((((6:Int)<((l.getD i default).pars.length:Int)\/(8:Int)<((l.getD i default).locs.length:Int))\/(200:Int)<(nSs (l.getD i default).body:Int))\/(16:Int)<(wSs (l.getD i default).body:Int))\/(20:Int)<(dSs (l.getD i default).body 0:Int))\/cW (l.getD i default).body=true)\/(20:Int)<(dpE (l.getD i default).val:Int)):dpG (l.drop i)=true:=by rw[dg_b h];unfold dgB;rw[a0G];left;simp only[a0G,decide_eq_true_eq];exact c.imp (fun c=>c.imp (fun c=>by omega) id) (fun c=>by omega)
theorem dg_n{l:List FunT}{i:Nat}(h:i<l.length)(c:(((((¬(6:Int)<((l.getD i default).pars.length:Int)/\¬(8:Int)<((l.getD i default).locs.length:Int))/\¬(200:Int)<(nSs (l.getD i default).body:Int))/\¬(16:Int)<(wSs (l.getD i default).body:Int))/\¬(20:Int)<(dSs (l.getD i default).body 0:Int))/\cW (l.getD i default).body=false)/\¬(20:Int)<(dpE (l.getD i default).val:Int)):dpG (l.drop i)=dpG (l.drop (i+1)):=by rw[dg_b h];unfold dgB;rw[decide_eq_false (show ¬6<(l.getD i default).pars.length by omega),decide_eq_false (show ¬8<(l.getD i default).locs.length by omega),decide_eq_false (show ¬200<nSs (l.getD i default).body by omega),decide_eq_false (show ¬16<wSs (l.getD i default).body by omega),decide_eq_false (show ¬20<dSs (l.getD i default).body 0 by omega),c.1.2,decide_eq_false (show ¬20<dpE (l.getD i default).val by omega)];rfl
theorem dg_e{l:List FunT}{i:Nat}(h:l.length<=i):dpG (l.drop i)=false:=by rw[dg h,dpG]
theorem ex_1{p:PrgT}(c:(4:Int)<(p.arrs.length:Int)\/(8:Int)<(p.funs.length:Int)):exL p=true:=by
 unfold exL;rcases c with c|c
 ·rw[decide_eq_true (show 4<p.arrs.length by omega)];rfl
 rw[decide_eq_true (show 8<p.funs.length by omega),a1r];rfl
theorem ex_0{p:PrgT}(c: ¬(4:Int)<(p.arrs.length:Int)/\¬(8:Int)<(p.funs.length:Int)):exL p=(p.arrs.any lnB||dpG p.funs):=by unfold exL;rw[decide_eq_false (show ¬4<p.arrs.length by omega),decide_eq_false (show ¬8<p.funs.length by omega)];rfl
theorem ex_2{p:PrgT}{b:Bool}(c: ¬(4:Int)<(p.arrs.length:Int)/\¬(8:Int)<(p.funs.length:Int))(h:p.arrs.any lnB=b)(hb:b=true):exL p=true:=by rw[ex_0 c,h,hb];rfl
theorem ex_3{p:PrgT}{b:Bool}(c: ¬(4:Int)<(p.arrs.length:Int)/\¬(8:Int)<(p.funs.length:Int))(h:p.arrs.any lnB=false)(g:dpG p.funs=b)(hb:b=true):exL p=true:=by rw[ex_0 c,h,g,hb];rfl
theorem ex_4{p:PrgT}(c: ¬(4:Int)<(p.arrs.length:Int)/\¬(8:Int)<(p.funs.length:Int))(h:p.arrs.any lnB=false)(g:dpG p.funs=false):exL p=false:=by rw[ex_0 c,h,g];rfl
theorem nwd_end{l:List StmT}{i d:Nat}(h:l.length<=i):nSs (l.drop i)=0/\wSs (l.drop i)=0/\dSs (l.drop i) d=0:=by rw[dg h,nSs,wSs,dSs];exact⟨rfl,rfl,rfl⟩
theorem depth_c_aux: ∀(fuel:Nat) {E:Option Addr} {O:Nat} (e:ExpT) {F:Fz} {H:Heap} {R:List Fp} (hs:HS (.of H []) F H [] R) (a4:in64 e.kind) (a5:in64 e.n) (a6:in64 e.op) (T:SR F (sL E e.kids.length O) e.kids) (hn:ndE e<4611686018427387904),ndE e<fuel->kKt ex 90 [(aG [(iI e.kind),(iI e.n),(.string ⟨⟨e.name.b⟩⟩),(iI e.op),(sL E e.kids.length O)])] H fun v H'=> ∃(x:Int) (F':Fz),Fz.le F F'/\HS (.of H []) F' H' [] R/\v= .int .i64 x/\x=((dpE e:Nat):Int):=by
 intro fuel;induction fuel with
 |zero=>intros;omega
 |succ fuel ih=>
 intro E O e F H R hs a4 a5 a6 T hn a2;have b8:=nd_e e;have b9:=iC e.kids;have bb:=dp_e e;refine aU Try.func90 rfl rfl ?_;refine au 1 rfl ?_;refine ah ?_;refine bg (dw hs rfl rfl) rfl rfl ?_;rintro _ H2 _ ⟨b1,rfl,(a8:HS _ _ _ [(fP b1 [(iI e.kind),(iI e.n),(.string ⟨⟨e.name.b⟩⟩),(iI e.op),(sL E e.kids.length O)])] _),_⟩;refine wa (iI 0) rfl rfl rfl ?_;refine aF 2 rfl ?_;refine wT 3 [] 1 0 [3] [(3,(iI 0))] rfl fun _=>?_
 refine wT 2 [] 1 0 [4] [(4,(iI 0))] rfl fun _=>?_
 refine aH (fun(mm:Nat) f H'=> ∃(m:Int) (i:Nat) (F':Fz),Fz.le F F'/\HS (Base.of H []) F' H' [(fP b1 [(iI e.kind),(iI e.n),(.string ⟨⟨e.name.b⟩⟩),(iI e.op),(sL E e.kids.length O)])] R/\bf f [(1,(pT b1 0)),(3,(iI m)),(4,(iI (i:Int)))]/\mm=e.kids.length-i/\((dpE e:Int)=max m (iK (e.kids.drop i):Int))/\(0<=m)/\(i<=e.kids.length)) _ ⟨0,0,_,fR,a8,(agC rfl (agC rfl (agC rfl agN))),rfl,(by rw[bb,a0Q];omega),(by first|assumption|omega|(simp at *;omega)),(by first|assumption|omega|(simp at *;omega))⟩ ?_;rintro b6 f5 H5 ⟨m,i,F5,Z,U,an,rfl,h1,h0,hi⟩ a9;refine aS _ an (fun _=>?_);clear an;replace T:=T.mono Z;refine au 2 rfl ?_;refine wU 1 [(2,.o (sL E e.kids.length O))] 5 9 [] [(9,(.bool (decide ((i:Int)<(e.kids.length:Int)))))] (ql 48 4 (HS.hc U (i:=0) rfl) rfl rfl) rfl fun _=>?_
 refine aQ 3 5 (v:=(decide ((i:Int)<(e.kids.length:Int)))) rfl rfl rfl rfl (fun h=>?_) (fun h=>?_)
 ·try simp only[BS]at h
  have qa:=kU (l:=e.kids) (i:=i) (by omega);have qb:=dp_drop (l:=e.kids) (i:=i) (by omega);have qc:=dp_le (e.kids.getD i default);refine ah ?_;obtain⟨al,ax⟩:=Sv.view (SR.sv T U);obtain⟨b0,b2,b3,a7⟩:=ExpT.fx (ax i);let a0:Value:=(aG [(iI (e.kids.getD i default).kind),(iI (e.kids.getD i default).n),(.string ⟨⟨(e.kids.getD i default).name.b⟩⟩),(iI (e.kids.getD i default).op),(sL (cA (al i) 4) (e.kids.getD i default).kids.length (cK (al i) 4))])
  refine wRo 6 0 [(2,.o (sL E e.kids.length O)),(5,.o a0)] 12 17 [] [(12,(iI m)),(17,a0)] (vA (ql 48 4 (HS.hc U (i:=0) rfl) rfl rfl) (vA (Sv.ix (j:=(i:Int)) (SR.sv T U) (by first|omega|(dsimp only;omega)) (by first|omega|(dsimp only;omega))) (vA (qn 50 0 5 (ExpT.vw (ax i) (by first|omega|(dsimp only;omega))) rfl rfl rfl rfl) trivial))) rfl fun _=>?_
  refine aE (aw rfl rfl rfl) rfl rfl (ih (e.kids.getD i default) (HS.call U) (by first|omega|(dsimp only;omega)) (by first|omega|(dsimp only;omega)) (by first|omega|(dsimp only;omega)) a7 (by first|(simp only[az];omega)|omega) (by first|(simp only[az];omega)|omega)) ?_;rintro _ b5 ⟨b7,b4,a3,Y,rfl,rfl⟩;replace Y:HS _ _ _ [_] _:=HS.back U rfl Y;refine wUo 3 7 [] 19 20 [3] [(3,(iI (if 1+((dpE (e.kids.getD i default):Nat):Int)>m then 1+((dpE (e.kids.getD i default):Nat):Int) else m)))] (vi (n:=1+((dpE (e.kids.getD i default):Nat):Int)) (by first|omega|(dsimp only;omega))) rfl fun _=>?_
  refine aF 2 rfl ?_;refine wU 1 [] 10 11 [4] [(4,(iI ((i:Int)+1)))] (vi (n:=(i:Int)+1) (by first|omega|(dsimp only;omega))) rfl fun _=>?_
  refine a9 _ _ _ ?_ ⟨(if 1+((dpE (e.kids.getD i default):Nat):Int)>m then 1+((dpE (e.kids.getD i default):Nat):Int) else m),i+1,_,(fT (Z) a3),Y,(agC rfl (agC rfl (agC rfl agN))),rfl,(by first|assumption|omega|(simp at *;omega)),(by first|assumption|omega|(simp at *;omega)),(by first|assumption|omega|(simp at *;omega))⟩;omega
 try simp only[BS]at h
 have qb:=dp_end (l:=e.kids) (i:=i) (by omega);refine wT 1 [] 2 2 [21] [(2,(iI m))] rfl fun _=>?_
 refine av ⟨.inr rfl,_,rfl,m,_,(Z),(HS.forget U),rfl,(by omega)⟩
theorem ld{E:Option Addr}{O:Nat}(e:ExpT)(hs:HS (.of H []) F H [] R)(T:in64 e.kind)(U:in64 e.n)(Y:in64 e.op)(Z:SR F (sL E e.kids.length O) e.kids)(h:ndE e<4611686018427387904):kKt ex 90 [(aG [(iI e.kind),(iI e.n),(.string ⟨⟨e.name.b⟩⟩),(iI e.op),(sL E e.kids.length O)])] H fun v H'=> ∃(x:Int) (F':Fz),Fz.le F F'/\HS (.of H []) F' H' [] R/\v= .int .i64 x/\x=((dpE e:Nat):Int):=
 depth_c_aux ex (ndE e+1) e hs T U Y Z h (a0H _)
theorem count_c_aux: ∀(fuel:Nat) {ar:Option Addr} {a8:Nat} (l:List StmT) (deep:Nat) {F:Fz} {H:Heap} {R:List Fp} (hs:HS (.of H []) F H [] R) (h:SR F (sL ar l.length a8) l) (hn:deep+er l<4611686018427387904),er l<fuel->kKt ex 88 [(sL ar l.length a8),(iI (deep:Int))] H fun v H'=> ∃(n:Int) (w:Int) (d:Int) (F':Fz),Fz.le F F'/\HS (.of H []) F' H' [] R/\v= .tuple ⟨[.int .i64 n,.int .i64 w,.int .i64 d]⟩/\n=((nSs l:Nat):Int)/\w=((wSs l:Nat):Int)/\d=((dSs l deep:Nat):Int):=by
 intro fuel;induction fuel with
 |zero=>intros;omega
 |succ fuel ih=>
 intro ar a8 l deep F H R hs h hn gm;have f3:=j7 l;have f5:=n_le l;have f6:=w_le l;have f7:=d_le l deep;refine aU Try.func88 rfl rfl ?_;refine au 1 rfl ?_;refine wT 2 [] 4 6 [] [(4,(iI 0)),(5,(iI 0)),(6,(iI 0))] rfl fun _=>?_
 refine wT 3 [] 1 0 [7,8,9] [(7,(iI 0)),(8,(iI 0)),(9,(iI 0))] rfl fun _=>?_
 refine wT 2 [] 1 0 [10] [(10,(iI 0))] rfl fun _=>?_
 refine aH (fun(mm:Nat) f H'=> ∃(n:Nat) (w:Nat) (m:Int) (i:Nat) (F':Fz),Fz.le F F'/\HS (Base.of H []) F' H' [] R/\bf f [(0,(sL ar l.length a8)),(1,(iI (deep:Int))),(7,(iI (n:Int))),(8,(iI (w:Int))),(9,(iI m)),(10,(iI (i:Int)))]/\mm=l.length-i/\(nSs l=n+nSs (l.drop i))/\(wSs l=w+wSs (l.drop i))/\((dSs l deep:Int)=max m (dSs (l.drop i) deep:Int))/\(0<=m)/\(i<=l.length)) _ ⟨0,0,0,0,_,fR,hs,(agC rfl (agC rfl (agC rfl (agC rfl (agC rfl (agC rfl agN)))))),rfl,(by rw[a0Q];omega),(by rw[a0Q];omega),(by rw[a0Q];omega),(by first|assumption|omega|(simp at *;omega)),(by first|assumption|omega|(simp at *;omega))⟩ ?_;rintro fk f4 H4 ⟨n,w,m,i,F4,ax,O,a6,rfl,h1,h2,h3,h0,hi⟩ b6;refine aS _ a6 (fun _=>?_);clear a6;replace h:=h.mono ax;refine au 2 rfl ?_;refine wT 1 [] 17 20 [] [(20,(.bool (decide ((i:Int)<(l.length:Int)))))] rfl fun _=>?_
 refine aQ 4 5 (v:=(decide ((i:Int)<(l.length:Int)))) rfl rfl rfl rfl (fun c6=>?_) (fun c6=>?_)
 ·try simp only[BS]at c6
  have qa:=ns_at (l:=l) (i:=i) (by omega);have qs:=ns_s (l.getD i default);have qb:=n_drop (l:=l) (i:=i) (by omega);have qc:=w_drop (l:=l) (i:=i) (by omega);have qd:=d_drop (l:=l) (i:=i) (d:=deep) (by omega);refine wU 2 [] 23 24 [7] [(7,(iI ((n:Int)+1)))] (vi (n:=(n:Int)+1) (by first|omega|(dsimp only;omega))) rfl fun _=>?_
  refine wT 3 [] 25 27 [9] [(9,(iI (if(deep:Int)>m then(deep:Int) else m)))] rfl fun _=>?_
  obtain⟨e7,a7⟩:=Sv.view (SR.sv h O);obtain⟨cL,c0,c3,c4,c5,c7,b0,b1,e0,b7,b8,b9,ch⟩:=StmT.fx (a7 i);refine wR 1 [(4,.o (iI (l.getD i default).kind))] 28 33 [] [(33,(.bool ((l.getD i default).kind==4)))] (vA (Sv.ix (j:=(i:Int)) (SR.sv h O) (by first|omega|(dsimp only;omega)) (by first|omega|(dsimp only;omega))) (vA (ql 3 0 (StmT.vw (a7 i) (by first|omega|(dsimp only;omega))) rfl rfl) trivial)) rfl fun _=>?_
  refine wk_join (fun f H'=> ∃(Z:Nat),H'=H4/\bf f [(0,(sL ar l.length a8)),(1,(iI (deep:Int))),(7,(iI ((n:Int)+1))),(8,(iI (Z:Int))),(9,(iI (if(deep:Int)>m then(deep:Int) else m))),(10,(iI (i:Int)))]/\(Z=w+(if(l.getD i default).kind=4 then 1 else 0))) (fun a3=>?_) ?_
  ·refine aQ 0 0 (v:=((l.getD i default).kind==4)) rfl rfl rfl rfl (fun al=>?_) (fun al=>?_)
   ·try simp only[BS]at al
    refine wU 0 [] 34 35 [8] [(8,(iI ((w:Int)+1)))] (vi (n:=(w:Int)+1) (by first|omega|(dsimp only;omega))) rfl fun _=>?_
    exact a3 _ _ ⟨w+1,rfl,(agC rfl (agC rfl (agC rfl (agC rfl (agC rfl (agC rfl agN)))))),(by first|(rw[if_pos (by omega)];done)|(rw[if_neg (by omega)];omega))⟩
   try simp only[BS]at al
   exact a3 _ _ ⟨w,rfl,(agC rfl (agC rfl (agC rfl (agC rfl (agC rfl (agC rfl agN)))))),(by first|(rw[if_pos (by omega)];done)|(rw[if_neg (by omega)];omega))⟩
  skip;rintro fd H4 ⟨Z,rfl,a0,fi⟩;refine aS _ a0 (fun _=>?_);clear a0;refine au 2 rfl ?_;refine ah ?_;obtain⟨T,a1⟩:=Sv.view (SR.sv h O);obtain⟨c8,c9,dd,dk,dn,dt,b2,b3,e1,ci,ck,a4,cl⟩:=StmT.fx (a1 i);refine wRo 7 0 [(4,.o (sL (cA (T i) 15) (l.getD i default).thn.length (cK (T i) 15)))] 37 43 [] [(41,(sL (cA (T i) 15) (l.getD i default).thn.length (cK (T i) 15))),(43,(iI ((deep:Int)+1)))] (vA (Sv.ix (j:=(i:Int)) (SR.sv h O) (by first|omega|(dsimp only;omega)) (by first|omega|(dsimp only;omega))) (vA (ql 47 15 (StmT.vw (a1 i) (by first|omega|(dsimp only;omega))) rfl rfl) (vA (vi (n:=(deep:Int)+1) (by first|omega|(dsimp only;omega))) trivial))) rfl fun _=>?_
  refine aE (aw rfl rfl rfl) rfl rfl (ih (l.getD i default).thn (deep+1) (HS.call O) a4 (by omega) (by omega)) ?_;rintro _ e5 ⟨fl,f1,e8,e3,an,E,rfl,rfl,rfl,rfl⟩;replace E:HS _ _ _ [] _:=HS.back O rfl E;replace h:=h.mono an;refine wTo 7 8 [] 45 47 [11,12,13,36] [(11,(iI ((nSs (l.getD i default).thn:Nat):Int))),(12,(iI ((wSs (l.getD i default).thn:Nat):Int))),(13,(iI ((dSs (l.getD i default).thn (deep+1):Nat):Int)))] rfl fun _=>?_
  refine aF 2 rfl ?_;refine ah ?_;obtain⟨U,a2⟩:=Sv.view (SR.sv h E);obtain⟨d1,d2,d3,em,et,ez,b4,b5,e2,cm,co,cw,a5⟩:=StmT.fx (a2 i);refine wRo 7 0 [(4,.o (sL (cA (U i) 16) (l.getD i default).els.length (cK (U i) 16)))] 49 55 [] [(53,(sL (cA (U i) 16) (l.getD i default).els.length (cK (U i) 16))),(55,(iI ((deep:Int)+1)))] (vA (Sv.ix (j:=(i:Int)) (SR.sv h E) (by first|omega|(dsimp only;omega)) (by first|omega|(dsimp only;omega))) (vA (ql 47 16 (StmT.vw (a2 i) (by first|omega|(dsimp only;omega))) rfl rfl) (vA (vi (n:=(deep:Int)+1) (by first|omega|(dsimp only;omega))) trivial))) rfl fun _=>?_
  refine aE (aw rfl rfl rfl) rfl rfl (ih (l.getD i default).els (deep+1) (HS.call E) a5 (by omega) (by omega)) ?_;rintro _ e6 ⟨fu,f2,fb,e4,a9,Y,rfl,rfl,rfl,rfl⟩;replace Y:HS _ _ _ [] _:=HS.back E rfl Y;refine wTo 7 8 [] 57 59 [14,15,16,48] [(14,(iI ((nSs (l.getD i default).els:Nat):Int))),(15,(iI ((wSs (l.getD i default).els:Nat):Int))),(16,(iI ((dSs (l.getD i default).els (deep+1):Nat):Int)))] rfl fun _=>?_
  refine aF 1 rfl ?_;refine wR 2 [] 60 74 [7,8,9] [(7,(iI ((((n:Int)+1)+((nSs (l.getD i default).thn:Nat):Int))+((nSs (l.getD i default).els:Nat):Int)))),(8,(iI (((Z:Int)+((wSs (l.getD i default).thn:Nat):Int))+((wSs (l.getD i default).els:Nat):Int)))),(9,(iI (if(if((dSs (l.getD i default).els (deep+1):Nat):Int)>((dSs (l.getD i default).thn (deep+1):Nat):Int) then((dSs (l.getD i default).els (deep+1):Nat):Int) else((dSs (l.getD i default).thn (deep+1):Nat):Int))>(if(deep:Int)>m then(deep:Int) else m) then(if((dSs (l.getD i default).els (deep+1):Nat):Int)>((dSs (l.getD i default).thn (deep+1):Nat):Int) then((dSs (l.getD i default).els (deep+1):Nat):Int) else((dSs (l.getD i default).thn (deep+1):Nat):Int)) else(if(deep:Int)>m then(deep:Int) else m))))] (vA (vi (n:=((n:Int)+1)+((nSs (l.getD i default).thn:Nat):Int)) (by first|omega|(dsimp only;omega))) (vA (vi (n:=(((n:Int)+1)+((nSs (l.getD i default).thn:Nat):Int))+((nSs (l.getD i default).els:Nat):Int)) (by first|omega|(dsimp only;omega))) (vA (vi (n:=(Z:Int)+((wSs (l.getD i default).thn:Nat):Int)) (by first|omega|(dsimp only;omega))) (vA (vi (n:=((Z:Int)+((wSs (l.getD i default).thn:Nat):Int))+((wSs (l.getD i default).els:Nat):Int)) (by first|omega|(dsimp only;omega))) trivial)))) rfl fun _=>?_
  refine wU 1 [] 21 22 [10] [(10,(iI ((i:Int)+1)))] (vi (n:=(i:Int)+1) (by first|omega|(dsimp only;omega))) rfl fun _=>?_
  refine b6 _ _ _ ?_ ⟨((n+1)+(nSs (l.getD i default).thn))+(nSs (l.getD i default).els),(Z+(wSs (l.getD i default).thn))+(wSs (l.getD i default).els),(if(if((dSs (l.getD i default).els (deep+1):Nat):Int)>((dSs (l.getD i default).thn (deep+1):Nat):Int) then((dSs (l.getD i default).els (deep+1):Nat):Int) else((dSs (l.getD i default).thn (deep+1):Nat):Int))>(if(deep:Int)>m then(deep:Int) else m) then(if((dSs (l.getD i default).els (deep+1):Nat):Int)>((dSs (l.getD i default).thn (deep+1):Nat):Int) then((dSs (l.getD i default).els (deep+1):Nat):Int) else((dSs (l.getD i default).thn (deep+1):Nat):Int)) else(if(deep:Int)>m then(deep:Int) else m)),i+1,_,(fT (fT (ax) an) a9),Y,(agC rfl (agC rfl (agC rfl (agC rfl (agC rfl (agC rfl agN)))))),rfl,(by first|assumption|omega|(simp at *;omega)),(by first|assumption|omega|(simp at *;omega)),(by first|assumption|omega|(simp at *;omega)),(by first|assumption|omega|(simp at *;omega)),(by first|assumption|omega|(simp at *;omega))⟩;omega
 try simp only[BS]at c6
 have qb:=nwd_end (l:=l) (i:=i) (d:=deep) (by omega);refine wT 1 [] 4 6 [75,76,77] [(4,(iI (n:Int))),(5,(iI (w:Int))),(6,(iI m))] rfl fun _=>?_
 refine av ⟨.inr rfl,_,rfl,(n:Int),(w:Int),m,_,(ax),(HS.forget O),rfl,(by omega),(by omega),(by omega)⟩
theorem count_c{h:Option Addr}{E:Nat}(l:List StmT)(deep:Nat)(hs:HS (.of H []) F H [] R)(O:SR F (sL h l.length E) l)(T:deep+er l<4611686018427387904):kKt ex 88 [(sL h l.length E),(iI (deep:Int))] H fun v H'=> ∃(n:Int) (w:Int) (d:Int) (F':Fz),Fz.le F F'/\HS (.of H []) F' H' [] R/\v= .tuple ⟨[.int .i64 n,.int .i64 w,.int .i64 d]⟩/\n=((nSs l:Nat):Int)/\w=((wSs l:Nat):Int)/\d=((dSs l deep:Nat):Int):=
 count_c_aux ex (er l+1) l deep hs O T (a0H _)
theorem kI: ∀(fuel:Nat) {ar:Option Addr} {a4:Nat} (l:List StmT) {F:Fz} {H:Heap} {R:List Fp} (hs:HS (.of H []) F H [] R) (hl:SR F (sL ar l.length a4) l) (hn:er l<4611686018427387904),er l<fuel->kKt ex 89 [(sL ar l.length a4)] H fun v H'=> ∃(x:Bool) (F':Fz),Fz.le F F'/\HS (.of H []) F' H' [] R/\v= .bool x/\x=cW l:=by
 intro fuel;induction fuel with
 |zero=>intros;omega
 |succ fuel ih=>
 intro ar a4 l F H R hs hl hn ho;have g9:=j7 l;refine aU Try.func89 rfl rfl ?_;refine au 1 rfl ?_;refine wT 3 [] 2 2 [] [(2,(.bool false))] rfl fun _=>?_
 refine wT 2 [] 1 0 [3] [(3,(iI 0))] rfl fun _=>?_
 refine aH (fun(mm:Nat) f H'=> ∃(i:Nat) (F':Fz),Fz.le F F'/\HS (Base.of H []) F' H' [] R/\bf f [(0,(sL ar l.length a4)),(3,(iI (i:Int)))]/\mm=l.length-i/\(cW l=cW (l.drop i))/\(i<=l.length)) _ ⟨0,_,fR,hs,(agC rfl (agC rfl agN)),rfl,(by rfl),(by first|assumption|omega|(simp at *;omega))⟩ ?_;rintro g3 f3 H3 ⟨i,F3,b1,b8,c0,rfl,h1,hi⟩ d1;refine aS _ c0 (fun _=>?_);clear c0;replace hl:=hl.mono b1;refine au 2 rfl ?_;refine wT 1 [] 6 9 [] [(9,(.bool (decide ((i:Int)<(l.length:Int)))))] rfl fun _=>?_
 refine aQ 4 5 (v:=(decide ((i:Int)<(l.length:Int)))) rfl rfl rfl rfl (fun c5=>?_) (fun c5=>?_)
 ·try simp only[BS]at c5
  have qa:=ns_at (l:=l) (i:=i) (by omega);have qs:=ns_s (l.getD i default);have ht:=iC (l.getD i default).args;refine ah ?_;obtain⟨E,c3⟩:=Sv.view (SR.sv hl b8);obtain⟨e1,e2,e3,e4,e5,e6,et,ez,dn,a8,Z,ax,T⟩:=StmT.fx (c3 i);let c4:Value:=(aG [(iI (l.getD i default).kind),(.string ⟨⟨(l.getD i default).name.b⟩⟩),(.string ⟨⟨(l.getD i default).to.b⟩⟩),(iI (l.getD i default).n),(iI (l.getD i default).at_.kind),(iI (l.getD i default).at_.n),(.string ⟨⟨(l.getD i default).at_.name.b⟩⟩),(iI (l.getD i default).at_.op),(sL (cA (E i) 8) (l.getD i default).at_.kids.length (cK (E i) 8)),(iI (l.getD i default).val.kind),(iI (l.getD i default).val.n),(.string ⟨⟨(l.getD i default).val.name.b⟩⟩),(iI (l.getD i default).val.op),(sL (cA (E i) 13) (l.getD i default).val.kids.length (cK (E i) 13)),(sL (cA (E i) 14) (l.getD i default).args.length (cK (E i) 14)),(sL (cA (E i) 15) (l.getD i default).thn.length (cK (E i) 15)),(sL (cA (E i) 16) (l.getD i default).els.length (cK (E i) 16))])
  refine wRo 4 0 [(3,.o c4)] 12 15 [] [(15,c4)] (vA (Sv.ix (j:=(i:Int)) (SR.sv hl b8) (by first|omega|(dsimp only;omega)) (by first|omega|(dsimp only;omega))) (vA (qn 98 0 17 (StmT.vw (c3 i) (by first|omega|(dsimp only;omega))) rfl rfl rfl rfl) trivial)) rfl fun _=>?_
  refine bg (cJ b8 rfl) rfl rfl ?_;rintro _ fu _ ⟨b9,rfl,(dd:HS _ _ _ [(fP b9 [(iI 0),(.string ⟨⟨[]⟩⟩),(.string ⟨⟨[]⟩⟩),(iI 0),(iI 0),(iI 0),(.string ⟨⟨[]⟩⟩),(iI 0),(sL none 0 0),(iI 0),(iI 0),(.string ⟨⟨[]⟩⟩),(iI 0),(sL none 0 0),(sL none 0 0),(sL none 0 0),(sL none 0 0)])] _),_⟩;refine bK (ba (q:=0) dd rfl rfl rfl rfl rfl rfl rfl rfl rfl) rfl ?_;rintro _ f1 _ ⟨(b3:HS _ _ _ [(fP b9 [(iI (l.getD i default).kind),(.string ⟨⟨(l.getD i default).name.b⟩⟩),(.string ⟨⟨(l.getD i default).to.b⟩⟩),(iI (l.getD i default).n),(iI (l.getD i default).at_.kind),(iI (l.getD i default).at_.n),(.string ⟨⟨(l.getD i default).at_.name.b⟩⟩),(iI (l.getD i default).at_.op),(sL (cA (E i) 8) (l.getD i default).at_.kids.length (cK (E i) 8)),(iI (l.getD i default).val.kind),(iI (l.getD i default).val.n),(.string ⟨⟨(l.getD i default).val.name.b⟩⟩),(iI (l.getD i default).val.op),(sL (cA (E i) 13) (l.getD i default).val.kids.length (cK (E i) 13)),(sL (cA (E i) 14) (l.getD i default).args.length (cK (E i) 14)),(sL (cA (E i) 15) (l.getD i default).thn.length (cK (E i) 15)),(sL (cA (E i) 16) (l.getD i default).els.length (cK (E i) 16))])] _),_⟩;refine aF 3 rfl ?_;let c6:Fp:=(fP b9 [(iI (l.getD i default).kind),(.string ⟨⟨(l.getD i default).name.b⟩⟩),(.string ⟨⟨(l.getD i default).to.b⟩⟩),(iI (l.getD i default).n),(iI (l.getD i default).at_.kind),(iI (l.getD i default).at_.n),(.string ⟨⟨(l.getD i default).at_.name.b⟩⟩),(iI (l.getD i default).at_.op),(sL (cA (E i) 8) (l.getD i default).at_.kids.length (cK (E i) 8)),(iI (l.getD i default).val.kind),(iI (l.getD i default).val.n),(.string ⟨⟨(l.getD i default).val.name.b⟩⟩),(iI (l.getD i default).val.op),(sL (cA (E i) 13) (l.getD i default).val.kids.length (cK (E i) 13)),(sL (cA (E i) 14) (l.getD i default).args.length (cK (E i) 14)),(sL (cA (E i) 15) (l.getD i default).thn.length (cK (E i) 15)),(sL (cA (E i) 16) (l.getD i default).els.length (cK (E i) 16))])
  refine bO 16 35 [] [(35,(.bool ((((decide ((20:Int)<((dpE (⟨(l.getD i default).at_.kind,(l.getD i default).at_.n,⟨(l.getD i default).at_.name.b⟩,(l.getD i default).at_.op,(l.getD i default).at_.kids⟩:ExpT):Nat):Int)))||(decide ((20:Int)<((dpE (⟨(l.getD i default).val.kind,(l.getD i default).val.n,⟨(l.getD i default).val.name.b⟩,(l.getD i default).val.op,(l.getD i default).val.kids⟩:ExpT):Nat):Int))))||cW (l.getD i default).thn)||cW (l.getD i default).els)))] (fun H'=> ∃F',Fz.le F3 F'/\HS (Base.of H []) F' H' [c6] R) ?_ ?_
  ·refine ah ?_;refine ab (v:=(pT b9 4)) (aT rfl rfl) rfl rfl ?_;refine ab (v:=(aG [(iI (l.getD i default).at_.kind),(iI (l.getD i default).at_.n),(.string ⟨⟨(l.getD i default).at_.name.b⟩⟩),(iI (l.getD i default).at_.op),(sL (cA (E i) 8) (l.getD i default).at_.kids.length (cK (E i) 8))])) (bh (i:=4) rfl rfl rfl (HS.hc b3 (i:=0) rfl) rfl rfl rfl) rfl rfl ?_;refine aE (aw rfl rfl rfl) rfl rfl (ld ex (⟨(l.getD i default).at_.kind,(l.getD i default).at_.n,⟨(l.getD i default).at_.name.b⟩,(l.getD i default).at_.op,(l.getD i default).at_.kids⟩:ExpT) (HS.call b3) (by first|omega|(dsimp only;omega)) (by first|omega|(dsimp only;omega)) (by first|omega|(dsimp only;omega)) dn (by first|(simp only[az];omega)|omega)) ?_;rintro _ f4 ⟨g4,e8,al,a0,rfl,rfl⟩;replace a0:HS _ _ _ [_] _:=HS.back b3 rfl a0;replace a8:=a8.mono al;replace ax:=ax.mono al;replace T:=T.mono al;refine ab (v:=(.bool (decide ((20:Int)<((dpE (⟨(l.getD i default).at_.kind,(l.getD i default).at_.n,⟨(l.getD i default).at_.name.b⟩,(l.getD i default).at_.op,(l.getD i default).at_.kids⟩:ExpT):Nat):Int))))) (bA rfl rfl rfl rfl) rfl rfl ?_;refine wm (.bool (decide ((20:Int)<((dpE (⟨(l.getD i default).at_.kind,(l.getD i default).at_.n,⟨(l.getD i default).at_.name.b⟩,(l.getD i default).at_.op,(l.getD i default).at_.kids⟩:ExpT):Nat):Int)))) rfl rfl rfl ?_;refine cR (v:=(decide ((20:Int)<((dpE (⟨(l.getD i default).at_.kind,(l.getD i default).at_.n,⟨(l.getD i default).at_.name.b⟩,(l.getD i default).at_.op,(l.getD i default).at_.kids⟩:ExpT):Nat):Int)))) rfl rfl (fun O=>?_) (fun O=>?_)
   ·have b5:=O;try simp only[BS]at b5
    refine ab (v:=(pT b9 9)) (aT rfl rfl) rfl rfl ?_;refine aI rfl O ?_;refine ab (v:=(aG [(iI (l.getD i default).val.kind),(iI (l.getD i default).val.n),(.string ⟨⟨(l.getD i default).val.name.b⟩⟩),(iI (l.getD i default).val.op),(sL (cA (E i) 13) (l.getD i default).val.kids.length (cK (E i) 13))])) (bh (i:=9) rfl rfl rfl (HS.hc a0 (i:=0) rfl) rfl rfl rfl) rfl rfl ?_;refine aI rfl O ?_;refine aE (aw rfl rfl rfl) rfl rfl (ld ex (⟨(l.getD i default).val.kind,(l.getD i default).val.n,⟨(l.getD i default).val.name.b⟩,(l.getD i default).val.op,(l.getD i default).val.kids⟩:ExpT) (HS.call a0) (by first|omega|(dsimp only;omega)) (by first|omega|(dsimp only;omega)) (by first|omega|(dsimp only;omega)) a8 (by first|(simp only[az];omega)|omega)) ?_;rintro _ f5 ⟨g5,fb,a3,a1,rfl,rfl⟩;replace a1:HS _ _ _ [_] _:=HS.back a0 rfl a1;replace ax:=ax.mono a3;replace T:=T.mono a3;refine aI rfl O ?_;refine ab (v:=(.bool (decide ((20:Int)<((dpE (⟨(l.getD i default).val.kind,(l.getD i default).val.n,⟨(l.getD i default).val.name.b⟩,(l.getD i default).val.op,(l.getD i default).val.kids⟩:ExpT):Nat):Int))))) (bA rfl rfl rfl rfl) rfl rfl ?_;refine ab (v:=(.bool (decide ((20:Int)<((dpE (⟨(l.getD i default).val.kind,(l.getD i default).val.n,⟨(l.getD i default).val.name.b⟩,(l.getD i default).val.op,(l.getD i default).val.kids⟩:ExpT):Nat):Int))))) (ak rfl O rfl) rfl rfl ?_;refine wm (.bool (decide ((20:Int)<((dpE (⟨(l.getD i default).val.kind,(l.getD i default).val.n,⟨(l.getD i default).val.name.b⟩,(l.getD i default).val.op,(l.getD i default).val.kids⟩:ExpT):Nat):Int)))) rfl rfl rfl ?_;refine cR (v:=(decide ((20:Int)<((dpE (⟨(l.getD i default).val.kind,(l.getD i default).val.n,⟨(l.getD i default).val.name.b⟩,(l.getD i default).val.op,(l.getD i default).val.kids⟩:ExpT):Nat):Int)))) rfl rfl (fun U=>?_) (fun U=>?_)
    ·have b6:=U;try simp only[BS]at b6
     refine ab (v:=(pT b9 15)) (aT rfl rfl) rfl rfl ?_;refine aI rfl U ?_;refine ab (v:=(sL (cA (E i) 15) (l.getD i default).thn.length (cK (E i) 15))) (aP (i:=15) rfl rfl (HS.hc a1 (i:=0) rfl) rfl rfl) rfl rfl ?_;refine aI rfl U ?_;refine aE (aw rfl rfl rfl) rfl rfl (ih (l.getD i default).thn (HS.call a1) ax (by omega) (by omega)) ?_;rintro _ f6 ⟨g6,fd,b2,a2,rfl,rfl⟩;replace a2:HS _ _ _ [_] _:=HS.back a1 rfl a2;replace T:=T.mono b2;refine ab (v:=(.bool (cW (l.getD i default).thn))) (ak rfl U rfl) rfl rfl ?_;refine wm (.bool (cW (l.getD i default).thn)) rfl rfl rfl ?_;refine cR (v:=(cW (l.getD i default).thn)) rfl rfl (fun Y=>?_) (fun Y=>?_)
     ·have b7:=Y;try simp only[BS]at b7
      refine ab (v:=(pT b9 16)) (aT rfl rfl) rfl rfl ?_;refine aI rfl Y ?_;refine ab (v:=(sL (cA (E i) 16) (l.getD i default).els.length (cK (E i) 16))) (aP (i:=16) rfl rfl (HS.hc a2 (i:=0) rfl) rfl rfl) rfl rfl ?_;refine aI rfl Y ?_;refine aE (aw rfl rfl rfl) rfl rfl (ih (l.getD i default).els (HS.call a2) T (by omega) (by omega)) ?_;rintro _ f7 ⟨g7,fi,c9,b4,rfl,rfl⟩;replace b4:HS _ _ _ [_] _:=HS.back a2 rfl b4;refine ab (v:=(.bool (cW (l.getD i default).els))) (ak rfl Y rfl) rfl rfl ?_;refine aL ?_;exact aj ⟨rfl,⟨_,(fT (fT (fT (fT fR al) a3) b2) c9),HS.sub b4 (List.Sublist.refl _)⟩,(Lu rfl (Lu rfl (Lu rfl (Lu rfl (Lu rfl (Lu rfl (Lu rfl (Lu rfl (Lu rfl (Lu rfl (Lu rfl (Lu rfl (Lu rfl (Lu rfl (Lu rfl (Lu rfl (Lu rfl (Lu rfl (Lu rfl (Lu rfl Lr)))))))))))))))))))),(agC (congrArg Value.bool (show cW (l.getD i default).els=((((decide ((20:Int)<((dpE (⟨(l.getD i default).at_.kind,(l.getD i default).at_.n,⟨(l.getD i default).at_.name.b⟩,(l.getD i default).at_.op,(l.getD i default).at_.kids⟩:ExpT):Nat):Int)))||(decide ((20:Int)<((dpE (⟨(l.getD i default).val.kind,(l.getD i default).val.n,⟨(l.getD i default).val.name.b⟩,(l.getD i default).val.op,(l.getD i default).val.kids⟩:ExpT):Nat):Int))))||cW (l.getD i default).thn)||cW (l.getD i default).els) by first|rfl|simp only[↓O,↓U,↓Y,BT]|grind)) agN)⟩
     have b7:=Y;try simp only[BS]at b7
     refine aB rfl Y rfl ?_;refine aB rfl Y rfl ?_;refine ab (v:=(.bool true)) (ay rfl Y rfl) rfl rfl ?_;refine aL ?_;exact aj ⟨rfl,⟨_,(fT (fT (fT fR al) a3) b2),HS.sub a2 (List.Sublist.refl _)⟩,(Lu rfl (Lu rfl (Lu rfl (Lu rfl (Lu rfl (Lu rfl (Lu rfl (Lu rfl (Lu rfl (Lu rfl (Lu rfl (Lu rfl (Lu rfl (Lu rfl (Lu rfl (Lu rfl (Lu rfl (Lu rfl (Lu rfl (Lu rfl Lr)))))))))))))))))))),(agC (congrArg Value.bool (show true=((((decide ((20:Int)<((dpE (⟨(l.getD i default).at_.kind,(l.getD i default).at_.n,⟨(l.getD i default).at_.name.b⟩,(l.getD i default).at_.op,(l.getD i default).at_.kids⟩:ExpT):Nat):Int)))||(decide ((20:Int)<((dpE (⟨(l.getD i default).val.kind,(l.getD i default).val.n,⟨(l.getD i default).val.name.b⟩,(l.getD i default).val.op,(l.getD i default).val.kids⟩:ExpT):Nat):Int))))||cW (l.getD i default).thn)||cW (l.getD i default).els) by first|rfl|simp only[↓O,↓U,↓Y,BT]|grind)) agN)⟩
    have b6:=U;try simp only[BS]at b6
    refine aB rfl U rfl ?_;refine aB rfl U rfl ?_;refine ab (v:=(.bool true)) (ay rfl U rfl) rfl rfl ?_;refine wm (.bool true) rfl rfl rfl ?_;refine aB rfl rfl rfl ?_;refine aB rfl rfl rfl ?_;refine aB rfl rfl rfl ?_;refine ab (v:=(.bool true)) (ay rfl rfl rfl) rfl rfl ?_;refine aL ?_;exact aj ⟨rfl,⟨_,(fT (fT fR al) a3),HS.sub a1 (List.Sublist.refl _)⟩,(Lu rfl (Lu rfl (Lu rfl (Lu rfl (Lu rfl (Lu rfl (Lu rfl (Lu rfl (Lu rfl (Lu rfl (Lu rfl (Lu rfl (Lu rfl (Lu rfl (Lu rfl (Lu rfl (Lu rfl (Lu rfl (Lu rfl (Lu rfl Lr)))))))))))))))))))),(agC (congrArg Value.bool (show true=((((decide ((20:Int)<((dpE (⟨(l.getD i default).at_.kind,(l.getD i default).at_.n,⟨(l.getD i default).at_.name.b⟩,(l.getD i default).at_.op,(l.getD i default).at_.kids⟩:ExpT):Nat):Int)))||(decide ((20:Int)<((dpE (⟨(l.getD i default).val.kind,(l.getD i default).val.n,⟨(l.getD i default).val.name.b⟩,(l.getD i default).val.op,(l.getD i default).val.kids⟩:ExpT):Nat):Int))))||cW (l.getD i default).thn)||cW (l.getD i default).els) by first|rfl|simp only[↓O,↓U,BT]|grind)) agN)⟩
   have b5:=O;try simp only[BS]at b5
   refine aB rfl O rfl ?_;refine aB rfl O rfl ?_;refine aB rfl O rfl ?_;refine ab (v:=(.bool true)) (ay rfl O rfl) rfl rfl ?_;refine wm (.bool true) rfl rfl rfl ?_;refine aB rfl rfl rfl ?_;refine aB rfl rfl rfl ?_;refine aB rfl rfl rfl ?_;refine ab (v:=(.bool true)) (ay rfl rfl rfl) rfl rfl ?_;refine wm (.bool true) rfl rfl rfl ?_;refine aB rfl rfl rfl ?_;refine aB rfl rfl rfl ?_;refine aB rfl rfl rfl ?_;refine ab (v:=(.bool true)) (ay rfl rfl rfl) rfl rfl ?_;refine aL ?_;exact aj ⟨rfl,⟨_,(fT fR al),HS.sub a0 (List.Sublist.refl _)⟩,(Lu rfl (Lu rfl (Lu rfl (Lu rfl (Lu rfl (Lu rfl (Lu rfl (Lu rfl (Lu rfl (Lu rfl (Lu rfl (Lu rfl (Lu rfl (Lu rfl (Lu rfl (Lu rfl (Lu rfl (Lu rfl (Lu rfl (Lu rfl Lr)))))))))))))))))))),(agC (congrArg Value.bool (show true=((((decide ((20:Int)<((dpE (⟨(l.getD i default).at_.kind,(l.getD i default).at_.n,⟨(l.getD i default).at_.name.b⟩,(l.getD i default).at_.op,(l.getD i default).at_.kids⟩:ExpT):Nat):Int)))||(decide ((20:Int)<((dpE (⟨(l.getD i default).val.kind,(l.getD i default).val.n,⟨(l.getD i default).val.name.b⟩,(l.getD i default).val.op,(l.getD i default).val.kids⟩:ExpT):Nat):Int))))||cW (l.getD i default).thn)||cW (l.getD i default).els) by first|rfl|simp only[↓O,BT]|grind)) agN)⟩
  skip;rintro g2 f2 ⟨dt,a5,co⟩;replace Z:=Z.mono a5;refine au 1 rfl ?_;refine aQ 1 2 (v:=((((decide ((20:Int)<((dpE (⟨(l.getD i default).at_.kind,(l.getD i default).at_.n,⟨(l.getD i default).at_.name.b⟩,(l.getD i default).at_.op,(l.getD i default).at_.kids⟩:ExpT):Nat):Int)))||(decide ((20:Int)<((dpE (⟨(l.getD i default).val.kind,(l.getD i default).val.n,⟨(l.getD i default).val.name.b⟩,(l.getD i default).val.op,(l.getD i default).val.kids⟩:ExpT):Nat):Int))))||cW (l.getD i default).thn)||cW (l.getD i default).els)) rfl rfl rfl rfl (fun bb=>?_) (fun bb=>?_)
  ·try simp only[BS]at bb
   have h:=td_y (l:=l) (i:=i) (by omega) (by simpa only[az] using bb);refine wT 1 [] 2 2 [] [(2,(.bool true))] rfl fun _=>?_
   refine av ⟨.inr rfl,_,rfl,true,_,(fT (b1) a5),(HS.forget co),rfl,(by first|exact(h1.trans (td_end (by omega))).symm|exact(h1.trans h).symm|exact(h1.trans (g1.trans h)).symm)⟩
  try simp only[BS]at bb
  have df:=td_n (l:=l) (i:=i) (by omega) (by simpa only[az] using bb);refine wT 2 [] 1 0 [5] [(5,(iI 0))] rfl fun _=>?_
  refine aH (fun(mm:Nat) f H'=> ∃(k:Nat) (F':Fz),Fz.le dt F'/\HS (Base.of H []) F' H' [c6] R/\bf f [(0,(sL ar l.length a4)),(3,(iI (i:Int))),(4,(pT b9 0)),(5,(iI (k:Int)))]/\mm=(l.getD i default).args.length-k/\(cW (l.drop i)=anD ((l.getD i default).args.drop k) (cW (l.drop (i+1))))/\(k<=(l.getD i default).args.length)) _ ⟨0,_,fR,co,(agC rfl (agC rfl (agC rfl (agC rfl agN)))),rfl,(by exact df),(by first|assumption|omega|(simp at *;omega))⟩ ?_;rintro e7 go f9 ⟨k,fk,a6,an,cm,rfl,g1,hk⟩ dk;refine aS _ cm (fun _=>?_);clear cm;replace Z:=Z.mono a6;refine au 2 rfl ?_;refine wU 1 [(2,.o (sL (cA (E i) 14) (l.getD i default).args.length (cK (E i) 14)))] 36 40 [] [(40,(.bool (decide ((k:Int)<((l.getD i default).args.length:Int)))))] (ql 48 14 (HS.hc an (i:=0) rfl) rfl rfl) rfl fun _=>?_
  refine aQ 4 5 (v:=(decide ((k:Int)<((l.getD i default).args.length:Int)))) rfl rfl rfl rfl (fun ch=>?_) (fun ch=>?_)
  ·try simp only[BS]at ch
   have qk:=kU (l:=(l.getD i default).args) (i:=k) (by omega);refine ah ?_;obtain⟨ci,cw⟩:=Sv.view (SR.sv Z an);obtain⟨d2,d3,em,cL⟩:=ExpT.fx (cw k);let c7:Value:=(aG [(iI ((l.getD i default).args.getD k default).kind),(iI ((l.getD i default).args.getD k default).n),(.string ⟨⟨((l.getD i default).args.getD k default).name.b⟩⟩),(iI ((l.getD i default).args.getD k default).op),(sL (cA (ci k) 4) ((l.getD i default).args.getD k default).kids.length (cK (ci k) 4))])
   refine wRo 5 0 [(1,.o (sL (cA (E i) 14) (l.getD i default).args.length (cK (E i) 14))),(4,.o c7)] 43 47 [] [(47,c7)] (vA (ql 48 14 (HS.hc an (i:=0) rfl) rfl rfl) (vA (Sv.ix (j:=(k:Int)) (SR.sv Z an) (by first|omega|(dsimp only;omega)) (by first|omega|(dsimp only;omega))) (vA (qn 50 0 5 (ExpT.vw (cw k) (by first|omega|(dsimp only;omega))) rfl rfl rfl rfl) trivial))) rfl fun _=>?_
   refine aE (aw rfl rfl rfl) rfl rfl (ld ex ((l.getD i default).args.getD k default) (HS.call an) (by first|omega|(dsimp only;omega)) (by first|omega|(dsimp only;omega)) (by first|omega|(dsimp only;omega)) cL (by first|(simp only[az];omega)|omega)) ?_;rintro _ gm ⟨g8,fl,cl,a7,rfl,rfl⟩;replace a7:HS _ _ _ [_] _:=HS.back an rfl a7;refine wTo 1 6 [] 49 49 [] [(49,(.bool (decide ((20:Int)<((dpE ((l.getD i default).args.getD k default):Nat):Int)))))] rfl fun _=>?_
   refine aF 1 rfl ?_;refine aQ 1 2 (v:=(decide ((20:Int)<((dpE ((l.getD i default).args.getD k default):Nat):Int)))) rfl rfl rfl rfl (fun b0=>?_) (fun b0=>?_)
   ·try simp only[BS]at b0
    have h:=an_y (l:=(l.getD i default).args) (i:=k) (b:=cW (l.drop (i+1))) (by omega) (by simpa only[az] using b0);refine wT 1 [] 2 2 [] [(2,(.bool true))] rfl fun _=>?_
    refine av ⟨.inr rfl,_,rfl,true,_,(fT (fT (fT (b1) a5) a6) cl),(HS.forget a7),rfl,(by first|exact(h1.trans (td_end (by omega))).symm|exact(h1.trans h).symm|exact(h1.trans (g1.trans h)).symm)⟩
   try simp only[BS]at b0
   have df:=an_n (l:=(l.getD i default).args) (i:=k) (b:=cW (l.drop (i+1))) (by omega) (by simpa only[az] using b0);refine wU 1 [] 41 42 [5] [(5,(iI ((k:Int)+1)))] (vi (n:=(k:Int)+1) (by first|omega|(dsimp only;omega))) rfl fun _=>?_
   refine dk _ _ _ ?_ ⟨k+1,_,(fT (a6) cl),a7,(agC rfl (agC rfl (agC rfl (agC rfl agN)))),rfl,(by exact g1.trans df),(by first|assumption|omega|(simp at *;omega))⟩;omega
  try simp only[BS]at ch
  refine wU 1 [] 10 11 [3] [(3,(iI ((i:Int)+1)))] (vi (n:=(i:Int)+1) (by first|omega|(dsimp only;omega))) rfl fun _=>?_
  refine d1 _ _ _ ?_ ⟨i+1,_,(fT (fT (b1) a5) a6),(HS.sub an (a09 _ _)),(agC rfl (agC rfl agN)),rfl,(by exact h1.trans (g1.trans (an_e (by omega)))),(by first|assumption|omega|(simp at *;omega))⟩;omega
 try simp only[BS]at c5
 refine wT 1 [] 2 2 [] [(2,(.bool false))] rfl fun _=>?_
 refine av ⟨.inr rfl,_,rfl,false,_,(b1),(HS.forget b8),rfl,(by first|exact(h1.trans (td_end (by omega))).symm|exact(h1.trans h).symm|exact(h1.trans (g1.trans h)).symm)⟩
theorem tooDeep_c{h:Option Addr}{E:Nat}(l:List StmT)(hs:HS (.of H []) F H [] R)(O:SR F (sL h l.length E) l)(T:er l<4611686018427387904):kKt ex 89 [(sL h l.length E)] H fun v H'=> ∃(x:Bool) (F':Fz),Fz.le F F'/\HS (.of H []) F' H' [] R/\v= .bool x/\x=cW l:=
 kI ex (er l+1) l hs O T (a0H _)
set_option maxHeartbeats 800000 in
theorem exceeds_c{a3:Option Addr}{a4:Nat}{ax:Option Addr}{a1:Nat}(p:PrgT)(hs:HS (.of H []) F H [] R)(b3:SR F (sL ax p.arrs.length a1) p.arrs)(a8:SR F (sL a3 p.funs.length a4) p.funs)(hn:SmP p):kKt ex 67 [(aG [(sL ax p.arrs.length a1),(sL a3 p.funs.length a4)])] H fun v H'=> ∃(x:Bool) (F':Fz),Fz.le F F'/\HS (.of H []) F' H' [] R/\v= .bool x/\x=exL p:=by
 obtain⟨hA,hB,hx⟩:=hn;refine aU Try.func67 rfl rfl ?_;refine au 1 rfl ?_;refine ah ?_;refine bg (dw hs rfl rfl) rfl rfl ?_;rintro _ H2 _ ⟨b1,rfl,(c6:HS _ _ _ [(fP b1 [(sL ax p.arrs.length a1),(sL a3 p.funs.length a4)])] _),_⟩;refine wa (.bool false) rfl rfl rfl ?_;refine aF 3 rfl ?_;refine wR 1 [(1,.o (sL ax p.arrs.length a1)),(6,.o (sL a3 p.funs.length a4))] 9 18 [] [(18,(.bool ((decide ((4:Int)<(p.arrs.length:Int)))||(decide ((8:Int)<(p.funs.length:Int))))))] (vA (ql 36 0 (HS.hc c6 (i:=0) rfl) rfl rfl) (vA (fun(g1:(decide ((4:Int)<(p.arrs.length:Int)))=false)=>(ql 37 1 (HS.hc c6 (i:=0) rfl) rfl rfl)) trivial)) rfl fun _=>?_
 refine aQ 1 3 (v:=((decide ((4:Int)<(p.arrs.length:Int)))||(decide ((8:Int)<(p.funs.length:Int))))) rfl rfl rfl rfl (fun c4=>?_) (fun c4=>?_)
 ·try simp only[BS]at c4
  have U:=c4;refine wT 1 [] 2 2 [] [(2,(.bool true))] rfl fun _=>?_
  refine av ⟨.inr rfl,_,rfl,true,_,fR,(HS.forget c6),rfl,(by first|exact(ex_1 U).symm|exact(ex_2 U h1 h).symm|exact(ex_3 U h2 g1 h).symm|exact(ex_4 U h2 (g1.trans (dg_e (by omega)))).symm)⟩
 try simp only[BS]at c4
 have U:=c4;refine wT 2 [] 1 0 [3] [(3,(iI 0))] rfl fun _=>?_
 let d2:Fp:=(fP b1 [(sL ax p.arrs.length a1),(sL a3 p.funs.length a4)])
 refine aH (fun(mm:Nat) f H'=> ∃(i:Nat) (F':Fz),Fz.le F F'/\HS (Base.of H []) F' H' [d2] R/\bf f [(1,(pT b1 0)),(3,(iI (i:Int)))]/\mm=p.arrs.length-i/\(p.arrs.any lnB=(p.arrs.drop i).any lnB)/\(i<=p.arrs.length)) _ ⟨0,_,fR,c6,(agC rfl (agC rfl agN)),rfl,(by rfl),(by first|assumption|omega|(simp at *;omega))⟩ ?_;rintro g4 f7 H7 ⟨i,F7,b4,a5,em,rfl,h1,hi⟩ e4;refine aS _ em (fun _=>?_);clear em;replace b3:=b3.mono b4;replace a8:=a8.mono b4;refine au 2 rfl ?_;refine wU 1 [(2,.o (sL ax p.arrs.length a1))] 19 23 [] [(23,(.bool (decide ((i:Int)<(p.arrs.length:Int)))))] (ql 36 0 (HS.hc a5 (i:=0) rfl) rfl rfl) rfl fun _=>?_
 refine aQ 4 6 (v:=(decide ((i:Int)<(p.arrs.length:Int)))) rfl rfl rfl rfl (fun c9=>?_) (fun c9=>?_)
 ·try simp only[BS]at c9
  obtain⟨fd,cm⟩:=Sv.view (SR.sv b3 a5);have e5:=ArrT.fx (cm i);refine wR 1 [(1,.o (sL ax p.arrs.length a1)),(5,.o (iI (p.arrs.getD i default).len)),(9,.o (sL ax p.arrs.length a1)),(13,.o (iI (p.arrs.getD i default).len))] 26 41 [] [(41,(.bool ((decide ((p.arrs.getD i default).len<1))||(decide ((16:Int)<(p.arrs.getD i default).len)))))] (vA (ql 36 0 (HS.hc a5 (i:=0) rfl) rfl rfl) (vA (Sv.ix (j:=(i:Int)) (SR.sv b3 a5) (by first|omega|(dsimp only;omega)) (by first|omega|(dsimp only;omega))) (vA (ql 3 1 (ArrT.vw (cm i) (by first|omega|(dsimp only;omega))) rfl rfl) (vA (fun(g1:(decide ((p.arrs.getD i default).len<1))=false)=>(ql 36 0 (HS.hc a5 (i:=0) rfl) rfl rfl)) (vA (fun(g1:(decide ((p.arrs.getD i default).len<1))=false)=>(Sv.ix (j:=(i:Int)) (SR.sv b3 a5) (by(try simp only[BS]at g1);(first|omega|(dsimp only;omega))) (by(try simp only[BS]at g1);(first|omega|(dsimp only;omega))))) (vA (fun(g1:(decide ((p.arrs.getD i default).len<1))=false)=>(ql 3 1 (ArrT.vw (cm i) (by(try simp only[BS]at g1);(first|omega|(dsimp only;omega)))) rfl rfl)) trivial)))))) rfl fun _=>?_
  refine aQ 1 2 (v:=((decide ((p.arrs.getD i default).len<1))||(decide ((16:Int)<(p.arrs.getD i default).len)))) rfl rfl rfl rfl (fun b8=>?_) (fun b8=>?_)
  ·try simp only[BS]at b8
   have h:=ar_y (l:=p.arrs) (i:=i) (by omega) b8;refine wT 1 [] 2 2 [] [(2,(.bool true))] rfl fun _=>?_
   refine av ⟨.inr rfl,_,rfl,true,_,(b4),(HS.forget a5),rfl,(by first|exact(ex_1 U).symm|exact(ex_2 U h1 h).symm|exact(ex_3 U h2 g1 h).symm|exact(ex_4 U h2 (g1.trans (dg_e (by omega)))).symm)⟩
  try simp only[BS]at b8
  have he:=ar_n (l:=p.arrs) (i:=i) (by omega) b8;refine wU 1 [] 24 25 [3] [(3,(iI ((i:Int)+1)))] (vi (n:=(i:Int)+1) (by first|omega|(dsimp only;omega))) rfl fun _=>?_
  refine e4 _ _ _ ?_ ⟨i+1,_,(b4),a5,(agC rfl (agC rfl agN)),rfl,(by exact h1.trans he),(by first|assumption|omega|(simp at *;omega))⟩;omega
 try simp only[BS]at c9
 have h2:=h1.trans (lw (by omega));refine wT 2 [] 1 0 [4] [(4,(iI 0))] rfl fun _=>?_
 refine aH (fun(mm:Nat) f H'=> ∃(i:Nat) (F':Fz),Fz.le F7 F'/\HS (Base.of H []) F' H' [d2] R/\bf f [(1,(pT b1 0)),(4,(iI (i:Int)))]/\mm=p.funs.length-i/\(dpG p.funs=dpG (p.funs.drop i))/\(i<=p.funs.length)) _ ⟨0,_,fR,a5,(agC rfl (agC rfl agN)),rfl,(by rfl),(by first|assumption|omega|(simp at *;omega))⟩ ?_;rintro fi g2 f2 ⟨i,fk,b5,a9,dn,rfl,g1,hk⟩ e2;refine aS _ dn (fun _=>?_);clear dn;replace a8:=a8.mono b5;refine au 2 rfl ?_;refine wU 1 [(2,.o (sL a3 p.funs.length a4))] 42 46 [] [(46,(.bool (decide ((i:Int)<(p.funs.length:Int)))))] (ql 37 1 (HS.hc a9 (i:=0) rfl) rfl rfl) rfl fun _=>?_
 refine aQ 4 5 (v:=(decide ((i:Int)<(p.funs.length:Int)))) rfl rfl rfl rfl (fun c8=>?_) (fun c8=>?_)
 ·try simp only[BS]at c8
  have hz:=hx (p.funs.getD i default) (dN (by omega));refine ah ?_;obtain⟨E,d1⟩:=Sv.view (SR.sv a8 a9);obtain⟨e6,e7,e8,b6,b7,b0,a6⟩:=FunT.fx (d1 i);let et:Value:=(aG [(.string ⟨⟨(p.funs.getD i default).name.b⟩⟩),(sL (cA (E i) 1) (p.funs.getD i default).pars.length (cK (E i) 1)),(sL (cA (E i) 2) (p.funs.getD i default).locs.length (cK (E i) 2)),(sL (cA (E i) 3) (p.funs.getD i default).body.length (cK (E i) 3)),(iI (p.funs.getD i default).val.kind),(iI (p.funs.getD i default).val.n),(.string ⟨⟨(p.funs.getD i default).val.name.b⟩⟩),(iI (p.funs.getD i default).val.op),(sL (cA (E i) 8) (p.funs.getD i default).val.kids.length (cK (E i) 8))])
  refine wRo 5 0 [(1,.o (sL a3 p.funs.length a4)),(4,.o et)] 49 53 [] [(53,et)] (vA (ql 37 1 (HS.hc a9 (i:=0) rfl) rfl rfl) (vA (Sv.ix (j:=(i:Int)) (SR.sv a8 a9) (by first|omega|(dsimp only;omega)) (by first|omega|(dsimp only;omega))) (vA (qn 52 0 9 (FunT.vw (d1 i) (by first|omega|(dsimp only;omega))) rfl rfl rfl rfl) trivial))) rfl fun _=>?_
  refine bg (cJ a9 rfl) rfl rfl ?_;rintro _ f3 _ ⟨b2,rfl,(e1:HS _ _ _ [_,(fP b2 [(.string ⟨⟨[]⟩⟩),(sL none 0 0),(sL none 0 0),(sL none 0 0),(iI 0),(iI 0),(.string ⟨⟨[]⟩⟩),(iI 0),(sL none 0 0)])] _),_⟩;refine bK (ba (q:=1) e1 rfl rfl rfl rfl rfl rfl rfl rfl rfl) rfl ?_;rintro _ f4 _ ⟨(ck:HS _ _ _ [_,(fP b2 [(.string ⟨⟨(p.funs.getD i default).name.b⟩⟩),(sL (cA (E i) 1) (p.funs.getD i default).pars.length (cK (E i) 1)),(sL (cA (E i) 2) (p.funs.getD i default).locs.length (cK (E i) 2)),(sL (cA (E i) 3) (p.funs.getD i default).body.length (cK (E i) 3)),(iI (p.funs.getD i default).val.kind),(iI (p.funs.getD i default).val.n),(.string ⟨⟨(p.funs.getD i default).val.name.b⟩⟩),(iI (p.funs.getD i default).val.op),(sL (cA (E i) 8) (p.funs.getD i default).val.kids.length (cK (E i) 8))])] _),_⟩;refine aF 2 rfl ?_;refine ah ?_;refine wUo 2 0 [(1,.o (sL (cA (E i) 3) (p.funs.getD i default).body.length (cK (E i) 3)))] 55 56 [] [(56,(sL (cA (E i) 3) (p.funs.getD i default).body.length (cK (E i) 3)))] (ql 47 3 (HS.hc ck (i:=1) rfl) rfl rfl) rfl fun _=>?_
  refine aE (aw rfl rfl rfl) rfl rfl (count_c ex (p.funs.getD i default).body 0 (HS.call ck) b0 (by omega)) ?_;rintro _ f5 ⟨g5,g6,go,e3,a7,O,rfl,rfl,rfl,rfl⟩;replace O:HS _ _ _ [_,_] _:=HS.back ck rfl O;replace b6:=b6.mono a7;replace b7:=b7.mono a7;replace b0:=b0.mono a7;replace a6:=a6.mono a7;refine wTo 7 3 [] 58 60 [6,7,8,54] [(6,(iI ((nSs (p.funs.getD i default).body:Nat):Int))),(7,(iI ((wSs (p.funs.getD i default).body:Nat):Int))),(8,(iI ((dSs (p.funs.getD i default).body 0:Nat):Int)))] rfl fun _=>?_
  refine aF 2 rfl ?_;refine bO 61 93 [] [(93,(.bool (((((((decide ((6:Int)<((p.funs.getD i default).pars.length:Int)))||(decide ((8:Int)<((p.funs.getD i default).locs.length:Int))))||(decide ((200:Int)<((nSs (p.funs.getD i default).body:Nat):Int))))||(decide ((16:Int)<((wSs (p.funs.getD i default).body:Nat):Int))))||(decide ((20:Int)<((dSs (p.funs.getD i default).body 0:Nat):Int))))||cW (p.funs.getD i default).body)||(decide ((20:Int)<((dpE (⟨(p.funs.getD i default).val.kind,(p.funs.getD i default).val.n,⟨(p.funs.getD i default).val.name.b⟩,(p.funs.getD i default).val.op,(p.funs.getD i default).val.kids⟩:ExpT):Nat):Int))))))] (fun H'=> ∃F',Fz.le e3 F'/\HS (Base.of H []) F' H' [d2,(fP b2 [(.string ⟨⟨(p.funs.getD i default).name.b⟩⟩),(sL (cA (E i) 1) (p.funs.getD i default).pars.length (cK (E i) 1)),(sL (cA (E i) 2) (p.funs.getD i default).locs.length (cK (E i) 2)),(sL (cA (E i) 3) (p.funs.getD i default).body.length (cK (E i) 3)),(iI (p.funs.getD i default).val.kind),(iI (p.funs.getD i default).val.n),(.string ⟨⟨(p.funs.getD i default).val.name.b⟩⟩),(iI (p.funs.getD i default).val.op),(sL (cA (E i) 8) (p.funs.getD i default).val.kids.length (cK (E i) 8))])] R) ?_ ?_
  ·refine ah ?_;refine ab (v:=(pT b2 1)) (aT rfl rfl) rfl rfl ?_;refine ab (v:=(sL (cA (E i) 1) (p.funs.getD i default).pars.length (cK (E i) 1))) (aP (i:=1) rfl rfl (HS.hc O (i:=1) rfl) rfl rfl) rfl rfl ?_;refine ab (v:=(iI ((p.funs.getD i default).pars.length:Int))) (eo (α:=Str) rfl rfl (SR.sv b6 O)) rfl rfl ?_;refine ab (v:=(.bool (decide ((6:Int)<((p.funs.getD i default).pars.length:Int))))) (bA rfl rfl rfl rfl) rfl rfl ?_;refine wm (.bool (decide ((6:Int)<((p.funs.getD i default).pars.length:Int)))) rfl rfl rfl ?_;refine cR (v:=(decide ((6:Int)<((p.funs.getD i default).pars.length:Int)))) rfl rfl (fun T=>?_) (fun T=>?_)
   ·have co:=T;try simp only[BS]at co
    refine ab (v:=(pT b2 2)) (aT rfl rfl) rfl rfl ?_;refine aI rfl T ?_;refine ab (v:=(sL (cA (E i) 2) (p.funs.getD i default).locs.length (cK (E i) 2))) (aP (i:=2) rfl rfl (HS.hc O (i:=1) rfl) rfl rfl) rfl rfl ?_;refine aI rfl T ?_;refine ab (v:=(iI ((p.funs.getD i default).locs.length:Int))) (eo (α:=Str) rfl rfl (SR.sv b7 O)) rfl rfl ?_;refine aI rfl T ?_;refine ab (v:=(.bool (decide ((8:Int)<((p.funs.getD i default).locs.length:Int))))) (bA rfl rfl rfl rfl) rfl rfl ?_;refine ab (v:=(.bool (decide ((8:Int)<((p.funs.getD i default).locs.length:Int))))) (ak rfl T rfl) rfl rfl ?_;refine wm (.bool (decide ((8:Int)<((p.funs.getD i default).locs.length:Int)))) rfl rfl rfl ?_;refine cR (v:=(decide ((8:Int)<((p.funs.getD i default).locs.length:Int)))) rfl rfl (fun Y=>?_) (fun Y=>?_)
    ·have cw:=Y;try simp only[BS]at cw
     refine wm (iI ((nSs (p.funs.getD i default).body:Nat):Int)) rfl rfl rfl ?_;refine aI rfl Y ?_;refine ab (v:=(.bool (decide ((200:Int)<((nSs (p.funs.getD i default).body:Nat):Int))))) (bA rfl rfl rfl rfl) rfl rfl ?_;refine ab (v:=(.bool (decide ((200:Int)<((nSs (p.funs.getD i default).body:Nat):Int))))) (ak rfl Y rfl) rfl rfl ?_;refine wm (.bool (decide ((200:Int)<((nSs (p.funs.getD i default).body:Nat):Int)))) rfl rfl rfl ?_;refine cR (v:=(decide ((200:Int)<((nSs (p.funs.getD i default).body:Nat):Int)))) rfl rfl (fun al=>?_) (fun al=>?_)
     ·have cL:=al;try simp only[BS]at cL
      refine wm (iI ((wSs (p.funs.getD i default).body:Nat):Int)) rfl rfl rfl ?_;refine aI rfl al ?_;refine ab (v:=(.bool (decide ((16:Int)<((wSs (p.funs.getD i default).body:Nat):Int))))) (bA rfl rfl rfl rfl) rfl rfl ?_;refine ab (v:=(.bool (decide ((16:Int)<((wSs (p.funs.getD i default).body:Nat):Int))))) (ak rfl al rfl) rfl rfl ?_;refine wm (.bool (decide ((16:Int)<((wSs (p.funs.getD i default).body:Nat):Int)))) rfl rfl rfl ?_;refine cR (v:=(decide ((16:Int)<((wSs (p.funs.getD i default).body:Nat):Int)))) rfl rfl (fun a0=>?_) (fun a0=>?_)
      ·have c0:=a0;try simp only[BS]at c0
       refine wm (iI ((dSs (p.funs.getD i default).body 0:Nat):Int)) rfl rfl rfl ?_;refine aI rfl a0 ?_;refine ab (v:=(.bool (decide ((20:Int)<((dSs (p.funs.getD i default).body 0:Nat):Int))))) (bA rfl rfl rfl rfl) rfl rfl ?_;refine ab (v:=(.bool (decide ((20:Int)<((dSs (p.funs.getD i default).body 0:Nat):Int))))) (ak rfl a0 rfl) rfl rfl ?_;refine wm (.bool (decide ((20:Int)<((dSs (p.funs.getD i default).body 0:Nat):Int)))) rfl rfl rfl ?_;refine cR (v:=(decide ((20:Int)<((dSs (p.funs.getD i default).body 0:Nat):Int)))) rfl rfl (fun an=>?_) (fun an=>?_)
       ·have c3:=an;try simp only[BS]at c3
        refine ab (v:=(pT b2 3)) (aT rfl rfl) rfl rfl ?_;refine aI rfl an ?_;refine ab (v:=(sL (cA (E i) 3) (p.funs.getD i default).body.length (cK (E i) 3))) (aP (i:=3) rfl rfl (HS.hc O (i:=1) rfl) rfl rfl) rfl rfl ?_;refine aI rfl an ?_;refine aE (aw rfl rfl rfl) rfl rfl (tooDeep_c ex (p.funs.getD i default).body (HS.call O) b0 (by omega)) ?_;rintro _ f9 ⟨g7,fu,ci,bb,rfl,rfl⟩;replace bb:HS _ _ _ [_,_] _:=HS.back O rfl bb;replace a6:=a6.mono ci;refine ab (v:=(.bool (cW (p.funs.getD i default).body))) (ak rfl an rfl) rfl rfl ?_;refine wm (.bool (cW (p.funs.getD i default).body)) rfl rfl rfl ?_;refine cR (v:=(cW (p.funs.getD i default).body)) rfl rfl (fun Z=>?_) (fun Z=>?_)
        ·have c5:=Z;try simp only[BS]at c5
         refine ab (v:=(pT b2 4)) (aT rfl rfl) rfl rfl ?_;refine aI rfl Z ?_;refine ab (v:=(aG [(iI (p.funs.getD i default).val.kind),(iI (p.funs.getD i default).val.n),(.string ⟨⟨(p.funs.getD i default).val.name.b⟩⟩),(iI (p.funs.getD i default).val.op),(sL (cA (E i) 8) (p.funs.getD i default).val.kids.length (cK (E i) 8))])) (bh (i:=4) rfl rfl rfl (HS.hc bb (i:=1) rfl) rfl rfl rfl) rfl rfl ?_;refine aI rfl Z ?_;refine aE (aw rfl rfl rfl) rfl rfl (ld ex (⟨(p.funs.getD i default).val.kind,(p.funs.getD i default).val.n,⟨(p.funs.getD i default).val.name.b⟩,(p.funs.getD i default).val.op,(p.funs.getD i default).val.kids⟩:ExpT) (HS.call bb) (by first|omega|(dsimp only;omega)) (by first|omega|(dsimp only;omega)) (by first|omega|(dsimp only;omega)) a6 (by first|(simp only[az];omega)|omega)) ?_;rintro _ gm ⟨g8,f1,e0,cl,rfl,rfl⟩;replace cl:HS _ _ _ [_,_] _:=HS.back bb rfl cl;refine aI rfl Z ?_;refine ab (v:=(.bool (decide ((20:Int)<((dpE (⟨(p.funs.getD i default).val.kind,(p.funs.getD i default).val.n,⟨(p.funs.getD i default).val.name.b⟩,(p.funs.getD i default).val.op,(p.funs.getD i default).val.kids⟩:ExpT):Nat):Int))))) (bA rfl rfl rfl rfl) rfl rfl ?_;refine ab (v:=(.bool (decide ((20:Int)<((dpE (⟨(p.funs.getD i default).val.kind,(p.funs.getD i default).val.n,⟨(p.funs.getD i default).val.name.b⟩,(p.funs.getD i default).val.op,(p.funs.getD i default).val.kids⟩:ExpT):Nat):Int))))) (ak rfl Z rfl) rfl rfl ?_;refine aL ?_;exact aj ⟨rfl,⟨_,(fT (fT fR ci) e0),HS.sub cl (List.Sublist.refl _)⟩,(Lu rfl (Lu rfl (Lu rfl (Lu rfl (Lu rfl (Lu rfl (Lu rfl (Lu rfl (Lu rfl (Lu rfl (Lu rfl (Lu rfl (Lu rfl (Lu rfl (Lu rfl (Lu rfl (Lu rfl (Lu rfl (Lu rfl (Lu rfl (Lu rfl (Lu rfl (Lu rfl (Lu rfl (Lu rfl (Lu rfl (Lu rfl (Lu rfl (Lu rfl (Lu rfl (Lu rfl (Lu rfl (Lu rfl Lr))))))))))))))))))))))))))))))))),(agC (congrArg Value.bool (show(decide ((20:Int)<((dpE (⟨(p.funs.getD i default).val.kind,(p.funs.getD i default).val.n,⟨(p.funs.getD i default).val.name.b⟩,(p.funs.getD i default).val.op,(p.funs.getD i default).val.kids⟩:ExpT):Nat):Int)))=(((((((decide ((6:Int)<((p.funs.getD i default).pars.length:Int)))||(decide ((8:Int)<((p.funs.getD i default).locs.length:Int))))||(decide ((200:Int)<((nSs (p.funs.getD i default).body:Nat):Int))))||(decide ((16:Int)<((wSs (p.funs.getD i default).body:Nat):Int))))||(decide ((20:Int)<((dSs (p.funs.getD i default).body 0:Nat):Int))))||cW (p.funs.getD i default).body)||(decide ((20:Int)<((dpE (⟨(p.funs.getD i default).val.kind,(p.funs.getD i default).val.n,⟨(p.funs.getD i default).val.name.b⟩,(p.funs.getD i default).val.op,(p.funs.getD i default).val.kids⟩:ExpT):Nat):Int)))) by first|rfl|simp only[↓T,↓Y,↓al,↓a0,↓an,↓Z,BT]|grind)) agN)⟩
        have c5:=Z;try simp only[BS]at c5
        refine aB rfl Z rfl ?_;refine aB rfl Z rfl ?_;refine aB rfl Z rfl ?_;refine ab (v:=(.bool true)) (ay rfl Z rfl) rfl rfl ?_;refine aL ?_;exact aj ⟨rfl,⟨_,(fT fR ci),HS.sub bb (List.Sublist.refl _)⟩,(Lu rfl (Lu rfl (Lu rfl (Lu rfl (Lu rfl (Lu rfl (Lu rfl (Lu rfl (Lu rfl (Lu rfl (Lu rfl (Lu rfl (Lu rfl (Lu rfl (Lu rfl (Lu rfl (Lu rfl (Lu rfl (Lu rfl (Lu rfl (Lu rfl (Lu rfl (Lu rfl (Lu rfl (Lu rfl (Lu rfl (Lu rfl (Lu rfl (Lu rfl (Lu rfl (Lu rfl (Lu rfl (Lu rfl Lr))))))))))))))))))))))))))))))))),(agC (congrArg Value.bool (show true=(((((((decide ((6:Int)<((p.funs.getD i default).pars.length:Int)))||(decide ((8:Int)<((p.funs.getD i default).locs.length:Int))))||(decide ((200:Int)<((nSs (p.funs.getD i default).body:Nat):Int))))||(decide ((16:Int)<((wSs (p.funs.getD i default).body:Nat):Int))))||(decide ((20:Int)<((dSs (p.funs.getD i default).body 0:Nat):Int))))||cW (p.funs.getD i default).body)||(decide ((20:Int)<((dpE (⟨(p.funs.getD i default).val.kind,(p.funs.getD i default).val.n,⟨(p.funs.getD i default).val.name.b⟩,(p.funs.getD i default).val.op,(p.funs.getD i default).val.kids⟩:ExpT):Nat):Int)))) by first|rfl|simp only[↓T,↓Y,↓al,↓a0,↓an,↓Z,BT]|grind)) agN)⟩
       have c3:=an;try simp only[BS]at c3
       refine aB rfl an rfl ?_;refine aB rfl an rfl ?_;refine ab (v:=(.bool true)) (ay rfl an rfl) rfl rfl ?_;refine wm (.bool true) rfl rfl rfl ?_;refine aB rfl rfl rfl ?_;refine aB rfl rfl rfl ?_;refine aB rfl rfl rfl ?_;refine aB rfl rfl rfl ?_;refine ab (v:=(.bool true)) (ay rfl rfl rfl) rfl rfl ?_;refine aL ?_;exact aj ⟨rfl,⟨_,fR,HS.sub O (List.Sublist.refl _)⟩,(Lu rfl (Lu rfl (Lu rfl (Lu rfl (Lu rfl (Lu rfl (Lu rfl (Lu rfl (Lu rfl (Lu rfl (Lu rfl (Lu rfl (Lu rfl (Lu rfl (Lu rfl (Lu rfl (Lu rfl (Lu rfl (Lu rfl (Lu rfl (Lu rfl (Lu rfl (Lu rfl (Lu rfl (Lu rfl (Lu rfl (Lu rfl (Lu rfl (Lu rfl (Lu rfl (Lu rfl (Lu rfl (Lu rfl Lr))))))))))))))))))))))))))))))))),(agC (congrArg Value.bool (show true=(((((((decide ((6:Int)<((p.funs.getD i default).pars.length:Int)))||(decide ((8:Int)<((p.funs.getD i default).locs.length:Int))))||(decide ((200:Int)<((nSs (p.funs.getD i default).body:Nat):Int))))||(decide ((16:Int)<((wSs (p.funs.getD i default).body:Nat):Int))))||(decide ((20:Int)<((dSs (p.funs.getD i default).body 0:Nat):Int))))||cW (p.funs.getD i default).body)||(decide ((20:Int)<((dpE (⟨(p.funs.getD i default).val.kind,(p.funs.getD i default).val.n,⟨(p.funs.getD i default).val.name.b⟩,(p.funs.getD i default).val.op,(p.funs.getD i default).val.kids⟩:ExpT):Nat):Int)))) by first|rfl|simp only[↓T,↓Y,↓al,↓a0,↓an,BT]|grind)) agN)⟩
      have c0:=a0;try simp only[BS]at c0
      refine aB rfl a0 rfl ?_;refine ab (v:=(.bool true)) (ay rfl a0 rfl) rfl rfl ?_;refine wm (.bool true) rfl rfl rfl ?_;refine aB rfl rfl rfl ?_;refine aB rfl rfl rfl ?_;refine aB rfl rfl rfl ?_;refine ab (v:=(.bool true)) (ay rfl rfl rfl) rfl rfl ?_;refine wm (.bool true) rfl rfl rfl ?_;refine aB rfl rfl rfl ?_;refine aB rfl rfl rfl ?_;refine aB rfl rfl rfl ?_;refine aB rfl rfl rfl ?_;refine ab (v:=(.bool true)) (ay rfl rfl rfl) rfl rfl ?_;refine aL ?_;exact aj ⟨rfl,⟨_,fR,HS.sub O (List.Sublist.refl _)⟩,(Lu rfl (Lu rfl (Lu rfl (Lu rfl (Lu rfl (Lu rfl (Lu rfl (Lu rfl (Lu rfl (Lu rfl (Lu rfl (Lu rfl (Lu rfl (Lu rfl (Lu rfl (Lu rfl (Lu rfl (Lu rfl (Lu rfl (Lu rfl (Lu rfl (Lu rfl (Lu rfl (Lu rfl (Lu rfl (Lu rfl (Lu rfl (Lu rfl (Lu rfl (Lu rfl (Lu rfl (Lu rfl (Lu rfl Lr))))))))))))))))))))))))))))))))),(agC (congrArg Value.bool (show true=(((((((decide ((6:Int)<((p.funs.getD i default).pars.length:Int)))||(decide ((8:Int)<((p.funs.getD i default).locs.length:Int))))||(decide ((200:Int)<((nSs (p.funs.getD i default).body:Nat):Int))))||(decide ((16:Int)<((wSs (p.funs.getD i default).body:Nat):Int))))||(decide ((20:Int)<((dSs (p.funs.getD i default).body 0:Nat):Int))))||cW (p.funs.getD i default).body)||(decide ((20:Int)<((dpE (⟨(p.funs.getD i default).val.kind,(p.funs.getD i default).val.n,⟨(p.funs.getD i default).val.name.b⟩,(p.funs.getD i default).val.op,(p.funs.getD i default).val.kids⟩:ExpT):Nat):Int)))) by first|rfl|simp only[↓T,↓Y,↓al,↓a0,BT]|grind)) agN)⟩
     have cL:=al;try simp only[BS]at cL
     refine aB rfl al rfl ?_;refine ab (v:=(.bool true)) (ay rfl al rfl) rfl rfl ?_;refine wm (.bool true) rfl rfl rfl ?_;refine aB rfl rfl rfl ?_;refine aB rfl rfl rfl ?_;refine ab (v:=(.bool true)) (ay rfl rfl rfl) rfl rfl ?_;refine wm (.bool true) rfl rfl rfl ?_;refine aB rfl rfl rfl ?_;refine aB rfl rfl rfl ?_;refine aB rfl rfl rfl ?_;refine ab (v:=(.bool true)) (ay rfl rfl rfl) rfl rfl ?_;refine wm (.bool true) rfl rfl rfl ?_;refine aB rfl rfl rfl ?_;refine aB rfl rfl rfl ?_;refine aB rfl rfl rfl ?_;refine aB rfl rfl rfl ?_;refine ab (v:=(.bool true)) (ay rfl rfl rfl) rfl rfl ?_;refine aL ?_;exact aj ⟨rfl,⟨_,fR,HS.sub O (List.Sublist.refl _)⟩,(Lu rfl (Lu rfl (Lu rfl (Lu rfl (Lu rfl (Lu rfl (Lu rfl (Lu rfl (Lu rfl (Lu rfl (Lu rfl (Lu rfl (Lu rfl (Lu rfl (Lu rfl (Lu rfl (Lu rfl (Lu rfl (Lu rfl (Lu rfl (Lu rfl (Lu rfl (Lu rfl (Lu rfl (Lu rfl (Lu rfl (Lu rfl (Lu rfl (Lu rfl (Lu rfl (Lu rfl (Lu rfl (Lu rfl Lr))))))))))))))))))))))))))))))))),(agC (congrArg Value.bool (show true=(((((((decide ((6:Int)<((p.funs.getD i default).pars.length:Int)))||(decide ((8:Int)<((p.funs.getD i default).locs.length:Int))))||(decide ((200:Int)<((nSs (p.funs.getD i default).body:Nat):Int))))||(decide ((16:Int)<((wSs (p.funs.getD i default).body:Nat):Int))))||(decide ((20:Int)<((dSs (p.funs.getD i default).body 0:Nat):Int))))||cW (p.funs.getD i default).body)||(decide ((20:Int)<((dpE (⟨(p.funs.getD i default).val.kind,(p.funs.getD i default).val.n,⟨(p.funs.getD i default).val.name.b⟩,(p.funs.getD i default).val.op,(p.funs.getD i default).val.kids⟩:ExpT):Nat):Int)))) by first|rfl|simp only[↓T,↓Y,↓al,BT]|grind)) agN)⟩
    have cw:=Y;try simp only[BS]at cw
    refine aB rfl Y rfl ?_;refine ab (v:=(.bool true)) (ay rfl Y rfl) rfl rfl ?_;refine wm (.bool true) rfl rfl rfl ?_;refine aB rfl rfl rfl ?_;refine aB rfl rfl rfl ?_;refine ab (v:=(.bool true)) (ay rfl rfl rfl) rfl rfl ?_;refine wm (.bool true) rfl rfl rfl ?_;refine aB rfl rfl rfl ?_;refine aB rfl rfl rfl ?_;refine ab (v:=(.bool true)) (ay rfl rfl rfl) rfl rfl ?_;refine wm (.bool true) rfl rfl rfl ?_;refine aB rfl rfl rfl ?_;refine aB rfl rfl rfl ?_;refine aB rfl rfl rfl ?_;refine ab (v:=(.bool true)) (ay rfl rfl rfl) rfl rfl ?_;refine wm (.bool true) rfl rfl rfl ?_;refine aB rfl rfl rfl ?_;refine aB rfl rfl rfl ?_;refine aB rfl rfl rfl ?_;refine aB rfl rfl rfl ?_;refine ab (v:=(.bool true)) (ay rfl rfl rfl) rfl rfl ?_;refine aL ?_;exact aj ⟨rfl,⟨_,fR,HS.sub O (List.Sublist.refl _)⟩,(Lu rfl (Lu rfl (Lu rfl (Lu rfl (Lu rfl (Lu rfl (Lu rfl (Lu rfl (Lu rfl (Lu rfl (Lu rfl (Lu rfl (Lu rfl (Lu rfl (Lu rfl (Lu rfl (Lu rfl (Lu rfl (Lu rfl (Lu rfl (Lu rfl (Lu rfl (Lu rfl (Lu rfl (Lu rfl (Lu rfl (Lu rfl (Lu rfl (Lu rfl (Lu rfl (Lu rfl (Lu rfl (Lu rfl Lr))))))))))))))))))))))))))))))))),(agC (congrArg Value.bool (show true=(((((((decide ((6:Int)<((p.funs.getD i default).pars.length:Int)))||(decide ((8:Int)<((p.funs.getD i default).locs.length:Int))))||(decide ((200:Int)<((nSs (p.funs.getD i default).body:Nat):Int))))||(decide ((16:Int)<((wSs (p.funs.getD i default).body:Nat):Int))))||(decide ((20:Int)<((dSs (p.funs.getD i default).body 0:Nat):Int))))||cW (p.funs.getD i default).body)||(decide ((20:Int)<((dpE (⟨(p.funs.getD i default).val.kind,(p.funs.getD i default).val.n,⟨(p.funs.getD i default).val.name.b⟩,(p.funs.getD i default).val.op,(p.funs.getD i default).val.kids⟩:ExpT):Nat):Int)))) by first|rfl|simp only[↓T,↓Y,BT]|grind)) agN)⟩
   have co:=T;try simp only[BS]at co
   refine aB rfl T rfl ?_;refine aB rfl T rfl ?_;refine aB rfl T rfl ?_;refine ab (v:=(.bool true)) (ay rfl T rfl) rfl rfl ?_;refine wm (.bool true) rfl rfl rfl ?_;refine aB rfl rfl rfl ?_;refine aB rfl rfl rfl ?_;refine ab (v:=(.bool true)) (ay rfl rfl rfl) rfl rfl ?_;refine wm (.bool true) rfl rfl rfl ?_;refine aB rfl rfl rfl ?_;refine aB rfl rfl rfl ?_;refine ab (v:=(.bool true)) (ay rfl rfl rfl) rfl rfl ?_;refine wm (.bool true) rfl rfl rfl ?_;refine aB rfl rfl rfl ?_;refine aB rfl rfl rfl ?_;refine ab (v:=(.bool true)) (ay rfl rfl rfl) rfl rfl ?_;refine wm (.bool true) rfl rfl rfl ?_;refine aB rfl rfl rfl ?_;refine aB rfl rfl rfl ?_;refine aB rfl rfl rfl ?_;refine ab (v:=(.bool true)) (ay rfl rfl rfl) rfl rfl ?_;refine wm (.bool true) rfl rfl rfl ?_;refine aB rfl rfl rfl ?_;refine aB rfl rfl rfl ?_;refine aB rfl rfl rfl ?_;refine aB rfl rfl rfl ?_;refine ab (v:=(.bool true)) (ay rfl rfl rfl) rfl rfl ?_;refine aL ?_;exact aj ⟨rfl,⟨_,fR,HS.sub O (List.Sublist.refl _)⟩,(Lu rfl (Lu rfl (Lu rfl (Lu rfl (Lu rfl (Lu rfl (Lu rfl (Lu rfl (Lu rfl (Lu rfl (Lu rfl (Lu rfl (Lu rfl (Lu rfl (Lu rfl (Lu rfl (Lu rfl (Lu rfl (Lu rfl (Lu rfl (Lu rfl (Lu rfl (Lu rfl (Lu rfl (Lu rfl (Lu rfl (Lu rfl (Lu rfl (Lu rfl (Lu rfl (Lu rfl (Lu rfl (Lu rfl Lr))))))))))))))))))))))))))))))))),(agC (congrArg Value.bool (show true=(((((((decide ((6:Int)<((p.funs.getD i default).pars.length:Int)))||(decide ((8:Int)<((p.funs.getD i default).locs.length:Int))))||(decide ((200:Int)<((nSs (p.funs.getD i default).body:Nat):Int))))||(decide ((16:Int)<((wSs (p.funs.getD i default).body:Nat):Int))))||(decide ((20:Int)<((dSs (p.funs.getD i default).body 0:Nat):Int))))||cW (p.funs.getD i default).body)||(decide ((20:Int)<((dpE (⟨(p.funs.getD i default).val.kind,(p.funs.getD i default).val.n,⟨(p.funs.getD i default).val.name.b⟩,(p.funs.getD i default).val.op,(p.funs.getD i default).val.kids⟩:ExpT):Nat):Int)))) by first|rfl|simp only[↓T,BT]|grind)) agN)⟩
  skip;rintro g3 f6 ⟨fl,dk,dt⟩;refine au 1 rfl ?_;refine aQ 1 2 (v:=(((((((decide ((6:Int)<((p.funs.getD i default).pars.length:Int)))||(decide ((8:Int)<((p.funs.getD i default).locs.length:Int))))||(decide ((200:Int)<((nSs (p.funs.getD i default).body:Nat):Int))))||(decide ((16:Int)<((wSs (p.funs.getD i default).body:Nat):Int))))||(decide ((20:Int)<((dSs (p.funs.getD i default).body 0:Nat):Int))))||cW (p.funs.getD i default).body)||(decide ((20:Int)<((dpE (⟨(p.funs.getD i default).val.kind,(p.funs.getD i default).val.n,⟨(p.funs.getD i default).val.name.b⟩,(p.funs.getD i default).val.op,(p.funs.getD i default).val.kids⟩:ExpT):Nat):Int))))) rfl rfl rfl rfl (fun b9=>?_) (fun b9=>?_)
  ·try simp only[BS]at b9
   have h:=dg_y (l:=p.funs) (i:=i) (by omega) (by simpa only[az] using b9);refine wT 1 [] 2 2 [] [(2,(.bool true))] rfl fun _=>?_
   refine av ⟨.inr rfl,_,rfl,true,_,(fT (fT (fT (b4) b5) a7) dk),(HS.forget dt),rfl,(by first|exact(ex_1 U).symm|exact(ex_2 U h1 h).symm|exact(ex_3 U h2 g1 h).symm|exact(ex_4 U h2 (g1.trans (dg_e (by omega)))).symm)⟩
  try simp only[BS]at b9
  have he:=dg_n (l:=p.funs) (i:=i) (by omega) (by simpa only[az] using b9);refine wU 1 [] 47 48 [4] [(4,(iI ((i:Int)+1)))] (vi (n:=(i:Int)+1) (by first|omega|(dsimp only;omega))) rfl fun _=>?_
  refine e2 _ _ _ ?_ ⟨i+1,_,(fT (fT (b5) a7) dk),(HS.sub dt (a09 _ _)),(agC rfl (agC rfl agN)),rfl,(by exact g1.trans he),(by first|assumption|omega|(simp at *;omega))⟩;omega
 try simp only[BS]at c8
 refine wT 1 [] 2 2 [] [(2,(.bool false))] rfl fun _=>?_
 refine av ⟨.inr rfl,_,rfl,false,_,(fT (b4) b5),(HS.forget a9),rfl,(by first|exact(ex_1 U).symm|exact(ex_2 U h1 h).symm|exact(ex_3 U h2 g1 h).symm|exact(ex_4 U h2 (g1.trans (dg_e (by omega)))).symm)⟩
end Go.Proofs.Ytapgbjedgcpffaa.ca
