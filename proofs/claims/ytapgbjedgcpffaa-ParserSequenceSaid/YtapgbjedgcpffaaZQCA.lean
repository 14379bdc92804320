/-
The check of the reference: how large and how deep a program is, each function by a symbolic run. No condition but that the program has less than 2^62 parts.
-/
import Derived.Test.YtapgbjedgcpffaaZQL1
import Derived.Test.YtapgbjedgcpffaaZQPT
noncomputable section
namespace Go.Proofs.Ytapgbjedgcpffaa.ca
open Go.R
set_option maxRecDepth 10000
set_option linter.unusedVariables false
set_option linter.unusedSimpArgs false
variable (ex:FuncId) {F:Fz} {H:Heap} {R:List Fp}
open w3 l1 pt
instance :DecidableEq Str:=fun a b=>decidable_of_iff (a.b=b.b) ⟨fun h=>by cases a;cases b;simp_all,fun h=>by rw[h]⟩
mutual
def ndE:ExpT->Nat
 |⟨_,_,_,_,ks⟩=>1+gx ks
def gx:List ExpT->Nat
 | []=>0
 |e::l=>ndE e+gx l
end
mutual
def ndS:StmT->Nat
 |⟨_,_,_,_,a,v,ar,t,e⟩=>1+ndE a+ndE v+gx ar+eG t+eG e
def eG:List StmT->Nat
 | []=>0
 |s::l=>ndS s+eG l
end
mutual
def dpE:ExpT->Nat
 |⟨_,_,_,_,ks⟩=>i7 ks
def i7:List ExpT->Nat
 | []=>0
 |e::l=>max (1+dpE e) (i7 l)
end
mutual
def nS:StmT->Nat
 |⟨_,_,_,_,_,_,_,t,e⟩=>1+nSs t+nSs e
def nSs:List StmT->Nat
 | []=>0
 |s::l=>nS s+nSs l
end
mutual
def wS:StmT->Nat
 |⟨k,_,_,_,_,_,_,t,e⟩=>(if k=4 then 1 else 0)+wSs t+wSs e
def wSs:List StmT->Nat
 | []=>0
 |s::l=>wS s+wSs l
end
mutual
def dS:StmT->Nat->Nat
 |⟨_,_,_,_,_,_,_,t,e⟩,d=>max d (max (dSs t (d+1)) (dSs e (d+1)))
def dSs:List StmT->Nat->Nat
 | [],_=>0
 |s::l,d=>max (dS s d) (dSs l d)
end
mutual
def tdS:StmT->Bool
 |⟨_,_,_,_,a,v,ar,t,e⟩=>decide (20<dpE a)||decide (20<dpE v)||db t||db e||ar.any fun x=>decide (20<dpE x)
def db:List StmT->Bool
 | []=>false
 |s::l=>tdS s||db l
end
def inNm(s:List UInt8):Bool:=bT (s.getD 0 0)&&s.all bF&&decide (1<=s.length)&&decide (s.length<=16)
def vnm(s:List UInt8):Bool:=inNm s&& !fN s
def binO(o:Int):Bool:=decide (4<=o)&&decide (o<=18)
def wfN(k n:Int)(h:List UInt8)(o c:Int):Bool:=
 if k=1 then(((c==0)&&(h==[]))&&(o==0))
 else if k=2 then((((c==0)&&(n==0))&&(o==0))&&vnm h)
 else if k=3 then((((c==1)&&(n==0))&&(o==0))&&vnm h)
 else if k=4 then(((n==0)&&(h==[]))&&(((c==2)&&binO o)||((c==1)&&((o==20)||(o==21)))))
 else if k=5 then((((c==3)&&(n==0))&&(h==[]))&&(o==0))
 else false
mutual
def wfE:ExpT->Bool
 |⟨k,n,nm,o,ks⟩=>dO ks&&wfN k n nm.b o (ks.length:Int)
def dO:List ExpT->Bool
 | []=>true
 |e::l=>wfE e&&dO l
end
def isZ(e:ExpT):Bool:=(((((e.kind==0)&&(e.n==0))&&(e.name.b==[]))&&(e.op==0))&&((e.kids.length:Int)==0))
def onV(s:StmT):Bool:=(((((s.name.b==[])&&(s.to.b==[]))&&(s.n==0))&&isZ s.at_)&&((s.args.length:Int)==0))
def flS(s:StmT):Bool:=((s.thn.length:Int)==0)&&((s.els.length:Int)==0)
def wfK(s:StmT):Bool:=
 if s.kind=1 then((((((flS s&&vnm s.name.b)&&(s.to.b==[]))&&(s.n==0))&&isZ s.at_)&&((s.args.length:Int)==0))&&wfE s.val)
 else if s.kind=2 then((((((flS s&&vnm s.name.b)&&(s.to.b==[]))&&(s.n==0))&&wfE s.at_)&&((s.args.length:Int)==0))&&wfE s.val)
 else if s.kind=3 then(onV s&&wfE s.val)
 else if s.kind=4 then((onV s&&wfE s.val)&&((s.els.length:Int)==0))
 else if s.kind=5 then((flS s&&onV s)&&wfE s.val)
 else if s.kind=6 then(((((flS s&&vnm s.name.b)&&vnm s.to.b)&&(s.n==0))&&isZ s.at_)&&isZ s.val)
 else if s.kind=7 then(((((((flS s&&(s.name.b==[]))&&(s.to.b==[]))&&decide (0<=s.n))&&decide (s.n<=1000000))&&isZ s.at_)&&isZ s.val)&&((s.args.length:Int)==0))
 else false
mutual
def wfS:StmT->Bool
 |⟨k,nm,to,n,a,v,ar,t,e⟩=>dO ar&&wfK ⟨k,nm,to,n,a,v,ar,t,e⟩&&cE t&&cE e
def cE:List StmT->Bool
 | []=>true
 |s::l=>wfS s&&cE l
end
def dpG:List FunT->Bool
 | []=>false
 |f::l=>(decide (6<f.pars.length)||decide (8<f.locs.length)||decide (200<nSs f.body)||decide (16<wSs f.body)||decide (20<dSs f.body 0)||db f.body||decide (20<dpE f.val))||dpG l
def exL(p:PrgT):Bool:=decide (4<p.arrs.length)||decide (8<p.funs.length)||(p.arrs.any fun a=>decide (a.len<1)||decide (16<a.len))||dpG p.funs
def wfF(f:FunT):Bool:=(([f.name]++f.pars++f.locs).all fun s=>vnm s.b)&&cE f.body&&wfE f.val
def wfP(p:PrgT):Bool:=(p.arrs.all fun a=>vnm a.name.b)&&p.funs.all wfF
def dz(l:List Str)(s:List UInt8):Bool:=l.any fun x=>x.b==s
def iG:List Str->List Str->Bool
 |_,[]=>false
 |seen,s::l=>dz seen s.b||iG (seen++[s]) l
def dupF(h:List Str):List Str->List FunT->Bool
 |_,[]=>false
 |fs,f::l=>dz fs f.name.b||iG h (f.pars++f.locs)||dupF h (fs++[f.name]) l
def dupP(p:PrgT):Bool:=iG [] (p.arrs.map (·.name))||dupF (p.arrs.map (·.name)) [] p.funs
mutual
def dfE(vs aa:List Str):ExpT->Bool
 |⟨k,_,nm,_,ks⟩=>eY vs aa ks&&((k !=2)||dz vs nm.b)&&((k !=3)||dz aa nm.b)
def eY(vs aa:List Str):List ExpT->Bool
 | []=>true
 |e::l=>dfE vs aa e&&eY vs aa l
end
def ffN(s:List UInt8):List FunT->Nat->Int
 | [],_=> -1
 |f::l,i=>if f.name.b=s then(i:Int) else ffN s l (i+1)
def ffP(p:PrgT)(s:List UInt8):Int:=ffN s p.funs 0
def swK(vs aa:List Str)(p:PrgT)(s:StmT):Bool:=if s.kind=1 then dz vs s.name.b else if s.kind=6 then(dz vs s.name.b&&decide (0<=ffP p s.to.b)) else if s.kind=2 then dz aa s.name.b else true
def dfK(vs aa:List Str)(p:PrgT)(s:StmT):Bool:=eY vs aa s.args&&dfE vs aa s.at_&&dfE vs aa s.val&&swK vs aa p s
mutual
def dfS(vs aa:List Str)(p:PrgT):StmT->Bool
 |⟨k,nm,to,n,a,v,ar,t,e⟩=>dfK vs aa p ⟨k,nm,to,n,a,v,ar,t,e⟩&&iH vs aa p t&&iH vs aa p e
def iH(vs aa:List Str)(p:PrgT):List StmT->Bool
 | []=>true
 |s::l=>dfS vs aa p s&&iH vs aa p l
end
def arK(p:PrgT)(s:StmT):Bool:= !((s.kind==6)&&((s.args.length:Int) !=((p.funs.getD (ffP p s.to.b).toNat default).pars.length:Int)))
mutual
def arS(p:PrgT):StmT->Bool
 |⟨k,nm,to,n,a,v,ar,t,e⟩=>arK p ⟨k,nm,to,n,a,v,ar,t,e⟩&&arSs p t&&arSs p e
def arSs(p:PrgT):List StmT->Bool
 | []=>true
 |s::l=>arS p s&&arSs p l
end
def arN(p:PrgT):List Str:=p.arrs.map (·.name)
def dfF(p:PrgT)(f:FunT):Bool:=iH (f.pars++f.locs) (arN p) p f.body&&dfE (f.pars++f.locs) (arN p) f.val
def arF(p:PrgT)(f:FunT):Bool:=arSs p f.body
def chk(p:PrgT):Int:=
 if exL p=true then 6 else if wfP p=false then 2 else if dupP p=true then 4
 else if p.funs.all (dfF p)=false then 3
 else if p.funs.all (arF p)=false then 5 else 0
theorem aY(x:ExpT):(⟨x.kind,x.n,⟨x.name.b⟩,x.op,x.kids⟩:ExpT)=x:=by cases x;rfl
theorem bU{α:Type}{l:List α}{i:Nat}{d:α}(h:i<l.length):l.drop i=l.getD i d::l.drop (i+1):=by rw[a0F h,a0a,a09 h];rfl
theorem dA{α:Type}{l:List α}{i:Nat}(h:l.length<=i):l.drop i=[]:=a12 h
theorem nd_e(e:ExpT):ndE e=1+gx e.kids:=by cases e;rw[ndE]
theorem iY: ∀l:List ExpT,l.length<=gx l
 | []=>a0p _
 |e::l=>by have:=iY l;have:=nd_e e;rw[gx,a01];omega
theorem lS: ∀{l:List ExpT} {i:Nat},i<l.length->ndE (l.getD i default)<=gx l
 |e::l,0,_=>by rw[gx];exact Nat.le_add_right _ _
 |e::l,i+1,h=>by have:=lS (l:=l) (i:=i) (by simpa using h);rw[gx];exact a0h this (Nat.le_add_left _ _)
theorem dp_e(e:ExpT):dpE e=i7 e.kids:=by cases e;rw[dpE]
theorem nd_mem: ∀{l:List ExpT} {x:ExpT},x∈l->ndE x<=gx l
 |e::l,x,h=>by
  rw[gx];rcases a0j.1 h with rfl|h
  ·omega
  have:=nd_mem h;omega
theorem exI{P:ExpT->Prop}(h: ∀e:ExpT,(∀x∈e.kids,P x)->P e): ∀(n:Nat) (e:ExpT),ndE e<=n->P e
 |0,e,q=>by rw[nd_e]at q;omega
 |n+1,e,q=>h e fun x E=>exI h n x (by have:=nd_mem E;rw[nd_e]at q;omega)
theorem dps_le: ∀{l:List ExpT},(∀x∈l,dpE x<ndE x)->i7 l<=gx l
 | [],_=>a0p _
 |e::l,h=>by
  rw[i7,gx];have:=h e (a0s ..);have:=dps_le (l:=l) fun x E=>h x (a0f _ E)
  omega
theorem dp_le(e:ExpT):dpE e<ndE e:=exI (P:=fun e=>dpE e<ndE e) (fun e h=>by rw[dp_e,nd_e];have:=dps_le h;omega) _ e (a06 _)
theorem dp_drop{l:List ExpT}{i:Nat}(h:i<l.length):i7 (l.drop i)=max (1+dpE (l.getD i default)) (i7 (l.drop (i+1))):=by rw[bU (d:=default) h,i7]
theorem dp_end{l:List ExpT}{i:Nat}(h:l.length<=i):i7 (l.drop i)=0:=by rw[dA h,i7]
theorem ns_s(s:StmT):ndS s=1+ndE s.at_+ndE s.val+gx s.args+eG s.thn+eG s.els:=by cases s;rw[ndS]
theorem kX: ∀l:List StmT,l.length<=eG l
 | []=>a0p _
 |s::l=>by have:=kX l;have:=ns_s s;rw[eG,a01];omega
theorem ns_at: ∀{l:List StmT} {i:Nat},i<l.length->ndS (l.getD i default)<=eG l
 |e::l,0,_=>by rw[eG];exact Nat.le_add_right _ _
 |e::l,i+1,h=>by have:=ns_at (l:=l) (i:=i) (by simpa using h);rw[eG];exact a0h this (Nat.le_add_left _ _)
theorem n_s(s:StmT):nS s=1+nSs s.thn+nSs s.els:=by cases s;rw[nS]
theorem w_s(s:StmT):wS s=(if s.kind=4 then 1 else 0)+wSs s.thn+wSs s.els:=by cases s;rw[wS]
theorem d_s(s:StmT)(d:Nat):dS s d=max d (max (dSs s.thn (d+1)) (dSs s.els (d+1))):=by cases s;rw[dS]
theorem ns_mem: ∀{l:List StmT} {x:StmT},x∈l->ndS x<=eG l
 |e::l,x,h=>by
  rw[eG];rcases a0j.1 h with rfl|h
  ·omega
  have:=ns_mem h;omega
theorem stI{P:StmT->Prop}(h: ∀s:StmT,(∀x∈s.thn,P x)->(∀x∈s.els,P x)->P s): ∀(n:Nat) (s:StmT),ndS s<=n->P s
 |0,s,q=>by rw[ns_s]at q;omega
 |n+1,s,q=>h s (fun x E=>stI h n x (by have:=ns_mem E;rw[ns_s]at q;omega)) fun x E=>stI h n x (by have:=ns_mem E;rw[ns_s]at q;omega)
theorem nwd_l: ∀{l:List StmT},(∀s∈l,nS s<=ndS s/\wS s<=ndS s/\∀d,dS s d<=d+ndS s)->nSs l<=eG l/\wSs l<=eG l/\∀d,dSs l d<=d+eG l
 | [],_=>⟨a06 _,a06 _,fun _=>a0p _⟩
 |s::l,h=>by
  obtain⟨T,U,E⟩:=h s (a0s ..);obtain⟨Y,Z,O⟩:=nwd_l (l:=l) fun x hx=>h x (a0f _ hx)
  rw[nSs,wSs,eG];refine⟨by omega,by omega,fun d=>?_⟩;rw[dSs];have:=E d;have:=O d;omega
theorem nwd_s(s:StmT):nS s<=ndS s/\wS s<=ndS s/\∀d,dS s d<=d+ndS s:=stI (P:=fun s=>nS s<=ndS s/\wS s<=ndS s/\∀d,dS s d<=d+ndS s) (fun s T U=>by
  obtain⟨Y,Z,E⟩:=nwd_l T;obtain⟨h,b2,O⟩:=nwd_l U;rw[n_s,w_s,ns_s];refine⟨by omega,by split<;>omega,fun d=>?_⟩;rw[d_s];have:=E (d+1);have:=O (d+1);omega) _ s (a06 _)
theorem n_le(l:List StmT):nSs l<=eG l:=(nwd_l fun s _=>nwd_s s).1
theorem w_le(l:List StmT):wSs l<=eG l:=(nwd_l fun s _=>nwd_s s).2.1
theorem d_le(l:List StmT)(d:Nat):dSs l d<=d+eG l:=(nwd_l fun s _=>nwd_s s).2.2 d
theorem n_drop{l:List StmT}{i:Nat}(h:i<l.length):nSs (l.drop i)=1+nSs (l.getD i default).thn+nSs (l.getD i default).els+nSs (l.drop (i+1)):=by rw[bU (d:=default) h,nSs,n_s]
theorem w_drop{l:List StmT}{i:Nat}(h:i<l.length):wSs (l.drop i)=(if(l.getD i default).kind=4 then 1 else 0)+wSs (l.getD i default).thn+wSs (l.getD i default).els+wSs (l.drop (i+1)):=by rw[bU (d:=default) h,wSs,w_s]
theorem d_drop{l:List StmT}{i d:Nat}(h:i<l.length):dSs (l.drop i) d=max (max d (max (dSs (l.getD i default).thn (d+1)) (dSs (l.getD i default).els (d+1)))) (dSs (l.drop (i+1)) d):=by rw[bU (d:=default) h,dSs,d_s]
theorem td_s(s:StmT):tdS s=(decide (20<dpE s.at_)||decide (20<dpE s.val)||db s.thn||db s.els||s.args.any fun x=>decide (20<dpE x)):=by cases s;rw[tdS]
theorem td_drop{l:List StmT}{i:Nat}(h:i<l.length):db (l.drop i)=((decide (20<dpE (l.getD i default).at_)||decide (20<dpE (l.getD i default).val)||db (l.getD i default).thn||db (l.getD i default).els||(l.getD i default).args.any fun x=>decide (20<dpE x))||db (l.drop (i+1))):=by rw[bU (d:=default) h,db,td_s]
theorem td_end{l:List StmT}{i:Nat}(h:l.length<=i):db (l.drop i)=false:=by rw[dA h,db]
theorem gC{α:Type} [Inhabited α]{p:α->Bool}{l:List α}{i:Nat}(h:i<l.length):(l.drop i).any p=(p (l.getD i default)||(l.drop (i+1)).any p):=by rw[bU (d:=default) h,List.any_cons]
theorem any_end{α:Type}{p:α->Bool}{l:List α}{i:Nat}(h:l.length<=i):(l.drop i).any p=false:=by rw[dA h,List.any_nil]
theorem all_drop{α:Type} [Inhabited α]{p:α->Bool}{l:List α}{i:Nat}(h:i<l.length):(l.drop i).all p=(p (l.getD i default)&&(l.drop (i+1)).all p):=by rw[bU (d:=default) h,a0R]
theorem ku{α:Type}{p:α->Bool}{l:List α}{i:Nat}(h:l.length<=i):(l.drop i).all p=true:=by rw[dA h,List.all_nil]
def anD(l:List ExpT)(b:Bool):Bool:=(l.any fun x=>decide (20<dpE x))||b
theorem td_y{l:List StmT}{i:Nat}(h:i<l.length)(c:(((20:Int)<(dpE (l.getD i default).at_:Int)\/(20:Int)<(dpE (l.getD i default).val:Int))\/db (l.getD i default).thn=true)\/db (l.getD i default).els=true):db (l.drop i)=true:=by
 rw[td_drop h];rcases c with((c|c)|c)|c
 ·rw[decide_eq_true (show 20<dpE (l.getD i default).at_ by omega)];rfl
 ·rw[decide_eq_true (show 20<dpE (l.getD i default).val by omega),a1o];rfl
 ·rw[c,a1o];rfl
 rw[c,a1o];rfl
theorem td_n{l:List StmT}{i:Nat}(h:i<l.length)(c:((¬(20:Int)<(dpE (l.getD i default).at_:Int)/\¬(20:Int)<(dpE (l.getD i default).val:Int))/\db (l.getD i default).thn=false)/\db (l.getD i default).els=false):db (l.drop i)=anD (l.getD i default).args (db (l.drop (i+1))):=by rw[td_drop h,decide_eq_false (show ¬20<dpE (l.getD i default).at_ by omega),decide_eq_false (show ¬20<dpE (l.getD i default).val by omega),c.1.2,c.2];rfl
theorem an_y{l:List ExpT}{i:Nat}{b:Bool}(h:i<l.length)(c:(20:Int)<(dpE (l.getD i default):Int)):anD (l.drop i) b=true:=by unfold anD;rw[gC h,decide_eq_true (show 20<dpE (l.getD i default) by omega)];rfl
theorem an_n{l:List ExpT}{i:Nat}{b:Bool}(h:i<l.length)(c: ¬(20:Int)<(dpE (l.getD i default):Int)):anD (l.drop i) b=anD (l.drop (i+1)) b:=by unfold anD;rw[gC h,decide_eq_false (show ¬20<dpE (l.getD i default) by omega)];rfl
theorem an_e{l:List ExpT}{i:Nat}{b:Bool}(h:l.length<=i):anD (l.drop i) b=b:=by unfold anD;rw[any_end h];rfl
def SmP(p:PrgT):Prop:=p.arrs.length<4611686018427387904/\p.funs.length<4611686018427387904/\∀f∈p.funs,f.pars.length<1000000000/\f.locs.length<1000000000/\eG f.body<4611686018427387904/\ndE f.val<4611686018427387904
theorem cQ{α:Type} [Inhabited α]{l:List α}{i:Nat}(h:i<l.length):l.getD i default∈l:=by rw[a0a,a09 h];exact a0J h
def lnB(a:ArrT):Bool:=decide (a.len<1)||decide (16<a.len)
theorem ar_y{l:List ArrT}{i:Nat}(h:i<l.length)(c:(l.getD i default).len<1\/16<(l.getD i default).len):(l.drop i).any lnB=true:=by rw[gC h];unfold lnB;rcases c with c|c<;>rw[decide_eq_true c]<;>simp
theorem ar_n{l:List ArrT}{i:Nat}(h:i<l.length)(c: ¬(l.getD i default).len<1/\¬16<(l.getD i default).len):(l.drop i).any lnB=(l.drop (i+1)).any lnB:=by rw[gC h];unfold lnB;rw[decide_eq_false c.1,decide_eq_false c.2];rfl
def dgB(f:FunT):Bool:=decide (6<f.pars.length)||decide (8<f.locs.length)||decide (200<nSs f.body)||decide (16<wSs f.body)||decide (20<dSs f.body 0)||db f.body||decide (20<dpE f.val)
theorem dg_b{l:List FunT}{i:Nat}(h:i<l.length):dpG (l.drop i)=(dgB (l.getD i default)||dpG (l.drop (i+1))):=by rw[bU (d:=default) h,dpG];rfl
theorem dg_y{l:List FunT}{i:Nat}(h:i<l.length)(c:((((((6:Int)<((l.getD i default).pars.length:Int)\/(8:Int)<((l.getD i default).locs.length:Int))\/(200:Int)<(nSs (l.getD i default).body:Int))\/(16:Int)<(wSs (l.getD i default).body:Int))\/(20:Int)<(dSs (l.getD i default).body 0:Int))\/db (l.getD i default).body=true)\/(20:Int)<(dpE (l.getD i default).val:Int)):dpG (l.drop i)=true:=by rw[dg_b h];unfold dgB;rw[a0O];left;simp only[a0O,decide_eq_true_eq];exact c.imp (fun c=>c.imp (fun c=>by omega) id) (fun c=>by omega)
theorem dg_n{l:List FunT}{i:Nat}(h:i<l.length)(c:(((((¬(6:Int)<((l.getD i default).pars.length:Int)/\¬(8:Int)<((l.getD i default).locs.length:Int))/\¬(200:Int)<(nSs (l.getD i default).body:Int))/\¬(16:Int)<(wSs (l.getD i default).body:Int))/\¬(20:Int)<(dSs (l.getD i default).body 0:Int))/\db (l.getD i default).body=false)/\¬(20:Int)<(dpE (l.getD i default).val:Int)):dpG (l.drop i)=dpG (l.drop (i+1)):=by rw[dg_b h];unfold dgB;rw[decide_eq_false (show ¬6<(l.getD i default).pars.length by omega),decide_eq_false (show ¬8<(l.getD i default).locs.length by omega),decide_eq_false (show ¬200<nSs (l.getD i default).body by omega),decide_eq_false (show ¬16<wSs (l.getD i default).body by omega),decide_eq_false (show ¬20<dSs (l.getD i default).body 0 by omega),c.1.2,decide_eq_false (show ¬20<dpE (l.getD i default).val by omega)];rfl
theorem dg_e{l:List FunT}{i:Nat}(h:l.length<=i):dpG (l.drop i)=false:=by rw[dA h,dpG]
theorem ex_1{p:PrgT}(c:(4:Int)<(p.arrs.length:Int)\/(8:Int)<(p.funs.length:Int)):exL p=true:=by
 unfold exL;rcases c with c|c
 ·rw[decide_eq_true (show 4<p.arrs.length by omega)];rfl
 rw[decide_eq_true (show 8<p.funs.length by omega),a1o];rfl
theorem ex_0{p:PrgT}(c: ¬(4:Int)<(p.arrs.length:Int)/\¬(8:Int)<(p.funs.length:Int)):exL p=(p.arrs.any lnB||dpG p.funs):=by unfold exL;rw[decide_eq_false (show ¬4<p.arrs.length by omega),decide_eq_false (show ¬8<p.funs.length by omega)];rfl
theorem ex_2{p:PrgT}{b:Bool}(c: ¬(4:Int)<(p.arrs.length:Int)/\¬(8:Int)<(p.funs.length:Int))(h:p.arrs.any lnB=b)(hb:b=true):exL p=true:=by rw[ex_0 c,h,hb];rfl
theorem ex_3{p:PrgT}{b:Bool}(c: ¬(4:Int)<(p.arrs.length:Int)/\¬(8:Int)<(p.funs.length:Int))(h:p.arrs.any lnB=false)(g:dpG p.funs=b)(hb:b=true):exL p=true:=by rw[ex_0 c,h,g,hb];rfl
theorem ex_4{p:PrgT}(c: ¬(4:Int)<(p.arrs.length:Int)/\¬(8:Int)<(p.funs.length:Int))(h:p.arrs.any lnB=false)(g:dpG p.funs=false):exL p=false:=by rw[ex_0 c,h,g];rfl
theorem nwd_end{l:List StmT}{i d:Nat}(h:l.length<=i):nSs (l.drop i)=0/\wSs (l.drop i)=0/\dSs (l.drop i) d=0:=by rw[dA h,nSs,wSs,dSs];exact⟨rfl,rfl,rfl⟩
theorem depth_c_aux: ∀(fuel:Nat) {E:Option Addr} {O:Nat} (e:ExpT) {F:Fz} {H:Heap} {R:List Fp} (hs:HS (.of H []) F H [] R) (a4:in64 e.kind) (a5:in64 e.n) (a6:in64 e.op) (T:SR F (sL E e.kids.length O) e.kids) (hn:ndE e<4611686018427387904),ndE e<fuel->kKt ex 90 [(aG [(iI e.kind),(iI e.n),(tX e.name.b),(iI e.op),(sL E e.kids.length O)])] H fun v H'=> ∃(x:Int) (F':Fz),Fz.le F F'/\HS (.of H []) F' H' [] R/\v=iI x/\x=((dpE e:Nat):Int):=by
 intro fuel;induction fuel with
 |zero=>intros;omega
 |succ fuel ih=>
 intro E O e F H R hs a4 a5 a6 T hn a2;have b9:=nd_e e;have ch:=iY e.kids;have bb:=dp_e e;refine aB Try.func90 rfl rfl (ak 1 rfl (ab (aJ (cz hs rfl rfl) rfl rfl ?_)));rintro _ H2 _ ⟨b1,rfl,(a8:HS _ _ _ [(fP b1 [(iI e.kind),(iI e.n),(tX e.name.b),(iI e.op),(sL E e.kids.length O)])] _),_⟩;refine za (iI 0) (ai 2 rfl (wT 3 [] 1 0 [3] [(3,(iI 0))] rfl fun _=>wT 2 [] 1 0 [4] [(4,(iI 0))] rfl fun _=>av (fun(mm:Nat) f H'=> ∃(m:Int) (i:Nat) (F':Fz),Fz.le F F'/\HS (Base.of H []) F' H' [(fP b1 [(iI e.kind),(iI e.n),(tX e.name.b),(iI e.op),(sL E e.kids.length O)])] R/\aQ f [(1,(pT b1 0)),(3,(iI m)),(4,(iI (i:Int)))]/\mm=e.kids.length-i/\((dpE e:Int)=max m (i7 (e.kids.drop i):Int))/\(0<=m)/\(i<=e.kids.length)) _ ⟨0,0,_,fR,a8,⟨rfl,rfl,rfl,trivial⟩,rfl,(by rw[bb,a0V];omega),(by omega),(by omega)⟩ ?_));rintro b7 f5 H5 ⟨m,i,F5,Z,U,an,rfl,h1,h0,hi⟩ a9;refine aE _ an (fun _=>?_);clear an;replace T:=T.mono Z;refine ak 2 rfl (wU 1 [(2,.o (sL E e.kids.length O))] 5 9 [] [(9,(.bool (decide ((i:Int)<(e.kids.length:Int)))))] (ql 48 4 (HS.hc U (i:=0) rfl) rfl rfl) rfl fun _=>zd 3 5 (fun c7=>?_) fun c7=>?_)
 ·have qa:=lS (l:=e.kids) (i:=i) (by omega);have qb:=dp_drop (l:=e.kids) (i:=i) (by omega);have qc:=dp_le (e.kids.getD i default);refine ab ?_;obtain⟨h,ax⟩:=Sv.view (SR.sv T U);obtain⟨b2,b3,b4,a7⟩:=ExpT.fx (ax i);let a1:Value:=(aG [(iI (e.kids.getD i default).kind),(iI (e.kids.getD i default).n),(tX (e.kids.getD i default).name.b),(iI (e.kids.getD i default).op),(sL (cA (h i) 4) (e.kids.getD i default).kids.length (cK (h i) 4))])
  refine wRo 6 0 [(2,.o (sL E e.kids.length O)),(5,.o a1)] 12 17 [] [(12,(iI m)),(17,a1)] (vA (ql 48 4 (HS.hc U (i:=0) rfl) rfl rfl) (vA (Sv.ix (j:=(i:Int)) (SR.sv T U)) (vA (qn 50 0 5 (ExpT.vw (ax i)) rfl rfl rfl rfl) trivial))) rfl fun _=>zc (ih (e.kids.getD i default) (HS.call U) (by omega) (by omega) (by omega) a7 (by omega) (by omega)) ?_
  rintro _ b6 ⟨b8,b5,a3,Y,rfl,rfl⟩;replace Y:HS _ _ _ [_] _:=HS.back U rfl Y;refine wUo 3 7 [] 19 20 [3] [(3,(iI (if 1+((dpE (e.kids.getD i default):Nat):Int)>m then 1+((dpE (e.kids.getD i default):Nat):Int) else m)))] (vi (n:=1+((dpE (e.kids.getD i default):Nat):Int))) rfl fun _=>ai 2 rfl (wU 1 [] 10 11 [4] [(4,(iI ((i:Int)+1)))] (vi (n:=(i:Int)+1)) rfl fun _=>?_)
  refine a9 _ _ _ ?_ ⟨(if 1+((dpE (e.kids.getD i default):Nat):Int)>m then 1+((dpE (e.kids.getD i default):Nat):Int) else m),i+1,_,(fT (Z) a3),Y,⟨rfl,rfl,rfl,trivial⟩,rfl,(by omega),(by omega),(by omega)⟩;omega
 have qb:=dp_end (l:=e.kids) (i:=i) (by omega);refine wT 1 [] 2 2 [21] [(2,(iI m))] rfl fun _=>aj ⟨.inr rfl,_,rfl,m,_,(Z),(HS.forget U),rfl,(by omega)⟩
theorem l9{E:Option Addr}{O:Nat}(e:ExpT)(hs:HS (.of H []) F H [] R)(T:in64 e.kind)(U:in64 e.n)(Y:in64 e.op)(Z:SR F (sL E e.kids.length O) e.kids)(h:ndE e<4611686018427387904):kKt ex 90 [(aG [(iI e.kind),(iI e.n),(tX e.name.b),(iI e.op),(sL E e.kids.length O)])] H fun v H'=> ∃(x:Int) (F':Fz),Fz.le F F'/\HS (.of H []) F' H' [] R/\v=iI x/\x=((dpE e:Nat):Int):=
 depth_c_aux ex (ndE e+1) e hs T U Y Z h (a0y _)
theorem count_c_aux: ∀(fuel:Nat) {ar:Option Addr} {bb:Nat} (l:List StmT) (deep:Nat) {F:Fz} {H:Heap} {R:List Fp} (hs:HS (.of H []) F H [] R) (h:SR F (sL ar l.length bb) l) (hn:deep+eG l<4611686018427387904),eG l<fuel->kKt ex 88 [(sL ar l.length bb),(iI (deep:Int))] H fun v H'=> ∃(n:Int) (w:Int) (d:Int) (F':Fz),Fz.le F F'/\HS (.of H []) F' H' [] R/\v= .tuple ⟨[iI n,iI w,iI d]⟩/\n=((nSs l:Nat):Int)/\w=((wSs l:Nat):Int)/\d=((dSs l deep:Nat):Int):=by
 intro fuel;induction fuel with
 |zero=>intros;omega
 |succ fuel ih=>
 intro ar bb l deep F H R hs h hn e1;have f2:=kX l;have f3:=n_le l;have f5:=w_le l;have f6:=d_le l deep;refine aB Try.func88 rfl rfl (ak 1 rfl (wT 2 [] 4 6 [] [(4,(iI 0)),(5,(iI 0)),(6,(iI 0))] rfl fun _=>wT 3 [] 1 0 [7,8,9] [(7,(iI 0)),(8,(iI 0)),(9,(iI 0))] rfl fun _=>wT 2 [] 1 0 [10] [(10,(iI 0))] rfl fun _=>av (fun(mm:Nat) f H'=> ∃(n:Nat) (w:Nat) (m:Int) (i:Nat) (F':Fz),Fz.le F F'/\HS (Base.of H []) F' H' [] R/\aQ f [(0,(sL ar l.length bb)),(1,(iI (deep:Int))),(7,(iI (n:Int))),(8,(iI (w:Int))),(9,(iI m)),(10,(iI (i:Int)))]/\mm=l.length-i/\(nSs l=n+nSs (l.drop i))/\(wSs l=w+wSs (l.drop i))/\((dSs l deep:Int)=max m (dSs (l.drop i) deep:Int))/\(0<=m)/\(i<=l.length)) _ ⟨0,0,0,0,_,fR,hs,⟨rfl,rfl,rfl,rfl,rfl,rfl,trivial⟩,rfl,(by rw[a0V];omega),(by rw[a0V];omega),(by rw[a0V];omega),(by omega),(by omega)⟩ ?_));rintro fi f4 H4 ⟨n,w,m,i,F4,ax,O,a7,rfl,h1,h2,h3,h0,hi⟩ b6;refine aE _ a7 (fun _=>?_);clear a7;replace h:=h.mono ax;refine ak 2 rfl (wT 1 [] 17 20 [] [(20,(.bool (decide ((i:Int)<(l.length:Int)))))] rfl fun _=>zd 4 5 (fun c6=>?_) fun c6=>?_)
 ·have qa:=ns_at (l:=l) (i:=i) (by omega);have qs:=ns_s (l.getD i default);have qb:=n_drop (l:=l) (i:=i) (by omega);have qc:=w_drop (l:=l) (i:=i) (by omega);have qd:=d_drop (l:=l) (i:=i) (d:=deep) (by omega);refine wU 2 [] 23 24 [7] [(7,(iI ((n:Int)+1)))] (vi (n:=(n:Int)+1)) rfl fun _=>wT 3 [] 25 27 [9] [(9,(iI (if(deep:Int)>m then(deep:Int) else m)))] rfl fun _=>?_
  obtain⟨e6,a8⟩:=Sv.view (SR.sv h O);obtain⟨c5,c7,c8,c9,dd,dn,b0,b1,et,b7,b8,b9,ch⟩:=StmT.fx (a8 i);refine wR 1 [(4,.o (iI (l.getD i default).kind))] 28 33 [] [(33,(.bool ((l.getD i default).kind==4)))] (vA (Sv.ix (j:=(i:Int)) (SR.sv h O)) (vA (ql 3 0 (StmT.vw (a8 i)) rfl rfl) trivial)) rfl fun _=>wk_join (fun f H'=> ∃(Z:Nat),H'=H4/\aQ f [(0,(sL ar l.length bb)),(1,(iI (deep:Int))),(7,(iI ((n:Int)+1))),(8,(iI (Z:Int))),(9,(iI (if(deep:Int)>m then(deep:Int) else m))),(10,(iI (i:Int)))]/\(Z=w+(if(l.getD i default).kind=4 then 1 else 0))) (fun a4=>?_) ?_
  ·refine zi 0 0 (fun al=>?_) fun al=>?_
   ·try simp only[BS]at al
    refine wU 0 [] 34 35 [8] [(8,(iI ((w:Int)+1)))] (vi (n:=(w:Int)+1)) rfl fun _=>?_
    exact a4 _ _ ⟨w+1,rfl,⟨rfl,rfl,rfl,rfl,rfl,rfl,trivial⟩,(by(rw[if_pos (by omega)];done))⟩
   try simp only[BS]at al
   exact a4 _ _ ⟨w,rfl,⟨rfl,rfl,rfl,rfl,rfl,rfl,trivial⟩,(by(rw[if_neg (by omega)];omega))⟩
  skip;rintro fb H4 ⟨Z,rfl,a1,fd⟩;refine aE _ a1 (fun _=>?_);clear a1;refine ak 2 rfl (ab ?_);obtain⟨T,a2⟩:=Sv.view (SR.sv h O);obtain⟨dt,d1,d2,d3,d4,d5,b2,b3,ez,ci,co,a5,cL⟩:=StmT.fx (a2 i);refine wRo 7 0 [(4,.o (sL (cA (T i) 15) (l.getD i default).thn.length (cK (T i) 15)))] 37 43 [] [(41,(sL (cA (T i) 15) (l.getD i default).thn.length (cK (T i) 15))),(43,(iI ((deep:Int)+1)))] (vA (Sv.ix (j:=(i:Int)) (SR.sv h O)) (vA (ql 47 15 (StmT.vw (a2 i)) rfl rfl) (vA (vi (n:=(deep:Int)+1)) trivial))) rfl fun _=>zc (ih (l.getD i default).thn (deep+1) (HS.call O) a5 (by omega) (by omega)) ?_
  rintro _ e4 ⟨fk,fu,e7,e2,an,E,rfl,rfl,rfl,rfl⟩;replace E:HS _ _ _ [] _:=HS.back O rfl E;replace h:=h.mono an;refine wTo 7 8 [] 45 47 [11,12,13,36] [(11,(iI ((nSs (l.getD i default).thn:Nat):Int))),(12,(iI ((wSs (l.getD i default).thn:Nat):Int))),(13,(iI ((dSs (l.getD i default).thn (deep+1):Nat):Int)))] rfl fun _=>ai 2 rfl (ab ?_)
  obtain⟨U,a3⟩:=Sv.view (SR.sv h E);obtain⟨d6,d7,d8,d9,ea,em,b4,b5,e0,c0,c3,c4,a6⟩:=StmT.fx (a3 i);refine wRo 7 0 [(4,.o (sL (cA (U i) 16) (l.getD i default).els.length (cK (U i) 16)))] 49 55 [] [(53,(sL (cA (U i) 16) (l.getD i default).els.length (cK (U i) 16))),(55,(iI ((deep:Int)+1)))] (vA (Sv.ix (j:=(i:Int)) (SR.sv h E)) (vA (ql 47 16 (StmT.vw (a3 i)) rfl rfl) (vA (vi (n:=(deep:Int)+1)) trivial))) rfl fun _=>zc (ih (l.getD i default).els (deep+1) (HS.call E) a6 (by omega) (by omega)) ?_
  rintro _ e5 ⟨fl,f1,e8,e3,a9,Y,rfl,rfl,rfl,rfl⟩;replace Y:HS _ _ _ [] _:=HS.back E rfl Y;refine wTo 7 8 [] 57 59 [14,15,16,48] [(14,(iI ((nSs (l.getD i default).els:Nat):Int))),(15,(iI ((wSs (l.getD i default).els:Nat):Int))),(16,(iI ((dSs (l.getD i default).els (deep+1):Nat):Int)))] rfl fun _=>ai 1 rfl (wR 2 [] 60 74 [7,8,9] [(7,(iI ((((n:Int)+1)+((nSs (l.getD i default).thn:Nat):Int))+((nSs (l.getD i default).els:Nat):Int)))),(8,(iI (((Z:Int)+((wSs (l.getD i default).thn:Nat):Int))+((wSs (l.getD i default).els:Nat):Int)))),(9,(iI (if(if((dSs (l.getD i default).els (deep+1):Nat):Int)>((dSs (l.getD i default).thn (deep+1):Nat):Int) then((dSs (l.getD i default).els (deep+1):Nat):Int) else((dSs (l.getD i default).thn (deep+1):Nat):Int))>(if(deep:Int)>m then(deep:Int) else m) then(if((dSs (l.getD i default).els (deep+1):Nat):Int)>((dSs (l.getD i default).thn (deep+1):Nat):Int) then((dSs (l.getD i default).els (deep+1):Nat):Int) else((dSs (l.getD i default).thn (deep+1):Nat):Int)) else(if(deep:Int)>m then(deep:Int) else m))))] (vA (vi (n:=((n:Int)+1)+((nSs (l.getD i default).thn:Nat):Int))) (vA (vi (n:=(((n:Int)+1)+((nSs (l.getD i default).thn:Nat):Int))+((nSs (l.getD i default).els:Nat):Int))) (vA (vi (n:=(Z:Int)+((wSs (l.getD i default).thn:Nat):Int))) (vA (vi (n:=((Z:Int)+((wSs (l.getD i default).thn:Nat):Int))+((wSs (l.getD i default).els:Nat):Int))) trivial)))) rfl fun _=>wU 1 [] 21 22 [10] [(10,(iI ((i:Int)+1)))] (vi (n:=(i:Int)+1)) rfl fun _=>?_)
  refine b6 _ _ _ ?_ ⟨((n+1)+(nSs (l.getD i default).thn))+(nSs (l.getD i default).els),(Z+(wSs (l.getD i default).thn))+(wSs (l.getD i default).els),(if(if((dSs (l.getD i default).els (deep+1):Nat):Int)>((dSs (l.getD i default).thn (deep+1):Nat):Int) then((dSs (l.getD i default).els (deep+1):Nat):Int) else((dSs (l.getD i default).thn (deep+1):Nat):Int))>(if(deep:Int)>m then(deep:Int) else m) then(if((dSs (l.getD i default).els (deep+1):Nat):Int)>((dSs (l.getD i default).thn (deep+1):Nat):Int) then((dSs (l.getD i default).els (deep+1):Nat):Int) else((dSs (l.getD i default).thn (deep+1):Nat):Int)) else(if(deep:Int)>m then(deep:Int) else m)),i+1,_,(fT (fT (ax) an) a9),Y,⟨rfl,rfl,rfl,rfl,rfl,rfl,trivial⟩,rfl,(by omega),(by omega),(by omega),(by omega),(by omega)⟩;omega
 have qb:=nwd_end (l:=l) (i:=i) (d:=deep) (by omega);refine wT 1 [] 4 6 [75,76,77] [(4,(iI (n:Int))),(5,(iI (w:Int))),(6,(iI m))] rfl fun _=>aj ⟨.inr rfl,_,rfl,(n:Int),(w:Int),m,_,(ax),(HS.forget O),rfl,(by omega),(by omega),(by omega)⟩
theorem count_c{h:Option Addr}{E:Nat}(l:List StmT)(deep:Nat)(hs:HS (.of H []) F H [] R)(O:SR F (sL h l.length E) l)(T:deep+eG l<4611686018427387904):kKt ex 88 [(sL h l.length E),(iI (deep:Int))] H fun v H'=> ∃(n:Int) (w:Int) (d:Int) (F':Fz),Fz.le F F'/\HS (.of H []) F' H' [] R/\v= .tuple ⟨[iI n,iI w,iI d]⟩/\n=((nSs l:Nat):Int)/\w=((wSs l:Nat):Int)/\d=((dSs l deep:Nat):Int):=
 count_c_aux ex (eG l+1) l deep hs O T (a0y _)
theorem lG: ∀(fuel:Nat) {h:Option Addr} {ar:Nat} (l:List StmT) {F:Fz} {H:Heap} {R:List Fp} (hs:HS (.of H []) F H [] R) (hl:SR F (sL h l.length ar) l) (hn:eG l<4611686018427387904),eG l<fuel->kKt ex 89 [(sL h l.length ar)] H fun v H'=> ∃(x:Bool) (F':Fz),Fz.le F F'/\HS (.of H []) F' H' [] R/\v= .bool x/\x=db l:=by
 intro fuel;induction fuel with
 |zero=>intros;omega
 |succ fuel ih=>
 intro h ar l F H R hs hl hn hf;have g8:=kX l;refine aB Try.func89 rfl rfl (ak 1 rfl (wT 3 [] 2 2 [] [(2,(.bool false))] rfl fun _=>wT 2 [] 1 0 [3] [(3,(iI 0))] rfl fun _=>av (fun(mm:Nat) f H'=> ∃(i:Nat) (F':Fz),Fz.le F F'/\HS (Base.of H []) F' H' [] R/\aQ f [(0,(sL h l.length ar)),(3,(iI (i:Int)))]/\mm=l.length-i/\(db l=db (l.drop i))/\(i<=l.length)) _ ⟨0,_,fR,hs,⟨rfl,rfl,trivial⟩,rfl,(by rfl),(by omega)⟩ ?_));rintro g2 f3 H3 ⟨i,F3,b0,b7,c6,rfl,h1,hi⟩ d6;refine aE _ c6 (fun _=>?_);clear c6;replace hl:=hl.mono b0;refine ak 2 rfl (wT 1 [] 6 9 [] [(9,(.bool (decide ((i:Int)<(l.length:Int)))))] rfl fun _=>zd 4 5 (fun c5=>?_) fun c5=>?_)
 ·have qa:=ns_at (l:=l) (i:=i) (by omega);have qs:=ns_s (l.getD i default);have hp:=iY (l.getD i default).args;refine ab ?_;obtain⟨E,c7⟩:=Sv.view (SR.sv hl b7);obtain⟨e0,e1,e2,e3,e4,e5,ea,em,d3,a8,Z,ax,T⟩:=StmT.fx (c7 i);let c8:Value:=(aG [(iI (l.getD i default).kind),(tX (l.getD i default).name.b),(tX (l.getD i default).to.b),(iI (l.getD i default).n),(iI (l.getD i default).at_.kind),(iI (l.getD i default).at_.n),(tX (l.getD i default).at_.name.b),(iI (l.getD i default).at_.op),(sL (cA (E i) 8) (l.getD i default).at_.kids.length (cK (E i) 8)),(iI (l.getD i default).val.kind),(iI (l.getD i default).val.n),(tX (l.getD i default).val.name.b),(iI (l.getD i default).val.op),(sL (cA (E i) 13) (l.getD i default).val.kids.length (cK (E i) 13)),(sL (cA (E i) 14) (l.getD i default).args.length (cK (E i) 14)),(sL (cA (E i) 15) (l.getD i default).thn.length (cK (E i) 15)),(sL (cA (E i) 16) (l.getD i default).els.length (cK (E i) 16))])
  refine wRo 4 0 [(3,.o c8)] 12 15 [] [(15,c8)] (vA (Sv.ix (j:=(i:Int)) (SR.sv hl b7)) (vA (qn 98 0 17 (StmT.vw (c7 i)) rfl rfl rfl rfl) trivial)) rfl fun _=>aJ (aR b7 rfl) rfl rfl ?_
  rintro _ fl _ ⟨b9,rfl,(d1:HS _ _ _ [(fP b9 [(iI 0),(tX []),(tX []),(iI 0),(iI 0),(iI 0),(tX []),(iI 0),(sL none 0 0),(iI 0),(iI 0),(tX []),(iI 0),(sL none 0 0),(sL none 0 0),(sL none 0 0),(sL none 0 0)])] _),_⟩;refine aH (aq (q:=0) d1 rfl rfl rfl rfl rfl rfl rfl rfl rfl) rfl ?_;rintro _ fu _ ⟨(b2:HS _ _ _ [(fP b9 [(iI (l.getD i default).kind),(tX (l.getD i default).name.b),(tX (l.getD i default).to.b),(iI (l.getD i default).n),(iI (l.getD i default).at_.kind),(iI (l.getD i default).at_.n),(tX (l.getD i default).at_.name.b),(iI (l.getD i default).at_.op),(sL (cA (E i) 8) (l.getD i default).at_.kids.length (cK (E i) 8)),(iI (l.getD i default).val.kind),(iI (l.getD i default).val.n),(tX (l.getD i default).val.name.b),(iI (l.getD i default).val.op),(sL (cA (E i) 13) (l.getD i default).val.kids.length (cK (E i) 13)),(sL (cA (E i) 14) (l.getD i default).args.length (cK (E i) 14)),(sL (cA (E i) 15) (l.getD i default).thn.length (cK (E i) 15)),(sL (cA (E i) 16) (l.getD i default).els.length (cK (E i) 16))])] _),_⟩;let c9:Fp:=(fP b9 [(iI (l.getD i default).kind),(tX (l.getD i default).name.b),(tX (l.getD i default).to.b),(iI (l.getD i default).n),(iI (l.getD i default).at_.kind),(iI (l.getD i default).at_.n),(tX (l.getD i default).at_.name.b),(iI (l.getD i default).at_.op),(sL (cA (E i) 8) (l.getD i default).at_.kids.length (cK (E i) 8)),(iI (l.getD i default).val.kind),(iI (l.getD i default).val.n),(tX (l.getD i default).val.name.b),(iI (l.getD i default).val.op),(sL (cA (E i) 13) (l.getD i default).val.kids.length (cK (E i) 13)),(sL (cA (E i) 14) (l.getD i default).args.length (cK (E i) 14)),(sL (cA (E i) 15) (l.getD i default).thn.length (cK (E i) 15)),(sL (cA (E i) 16) (l.getD i default).els.length (cK (E i) 16))])
  refine ai 3 rfl (cX 16 35 [] [(35,(.bool ((((decide ((20:Int)<((dpE (⟨(l.getD i default).at_.kind,(l.getD i default).at_.n,⟨(l.getD i default).at_.name.b⟩,(l.getD i default).at_.op,(l.getD i default).at_.kids⟩:ExpT):Nat):Int)))||(decide ((20:Int)<((dpE (⟨(l.getD i default).val.kind,(l.getD i default).val.n,⟨(l.getD i default).val.name.b⟩,(l.getD i default).val.op,(l.getD i default).val.kids⟩:ExpT):Nat):Int))))||db (l.getD i default).thn)||db (l.getD i default).els)))] (fun H'=> ∃F',Fz.le F3 F'/\HS (Base.of H []) F' H' [c9] R) ?_ ?_)
  ·refine ab (ag (v:=(pT b9 4)) (bo rfl rfl) rfl rfl (ag (v:=(aG [(iI (l.getD i default).at_.kind),(iI (l.getD i default).at_.n),(tX (l.getD i default).at_.name.b),(iI (l.getD i default).at_.op),(sL (cA (E i) 8) (l.getD i default).at_.kids.length (cK (E i) 8))])) (bf (i:=4) rfl rfl rfl (HS.hc b2 (i:=0) rfl) rfl rfl rfl) rfl rfl (zc (l9 ex (⟨(l.getD i default).at_.kind,(l.getD i default).at_.n,⟨(l.getD i default).at_.name.b⟩,(l.getD i default).at_.op,(l.getD i default).at_.kids⟩:ExpT) (HS.call b2) (by omega) (by omega) (by omega) d3 (by(simp only[aY];omega))) ?_)));rintro _ f2 ⟨g3,e7,al,a1,rfl,rfl⟩;replace a1:HS _ _ _ [_] _:=HS.back b2 rfl a1;replace a8:=a8.mono al;replace ax:=ax.mono al;replace T:=T.mono al;refine ag (v:=(.bool (decide ((20:Int)<((dpE (⟨(l.getD i default).at_.kind,(l.getD i default).at_.n,⟨(l.getD i default).at_.name.b⟩,(l.getD i default).at_.op,(l.getD i default).at_.kids⟩:ExpT):Nat):Int))))) (br rfl rfl rfl rfl) rfl rfl (zm (.bool (decide ((20:Int)<((dpE (⟨(l.getD i default).at_.kind,(l.getD i default).at_.n,⟨(l.getD i default).at_.name.b⟩,(l.getD i default).at_.op,(l.getD i default).at_.kids⟩:ExpT):Nat):Int)))) (cj (v:=(decide ((20:Int)<((dpE (⟨(l.getD i default).at_.kind,(l.getD i default).at_.n,⟨(l.getD i default).at_.name.b⟩,(l.getD i default).at_.op,(l.getD i default).at_.kids⟩:ExpT):Nat):Int)))) rfl rfl (fun O=>?_) (fun O=>?_)))
   ·have b4:=O;try simp only[BS]at b4
    refine ag (v:=(pT b9 9)) (bo rfl rfl) rfl rfl (aC rfl O (ag (v:=(aG [(iI (l.getD i default).val.kind),(iI (l.getD i default).val.n),(tX (l.getD i default).val.name.b),(iI (l.getD i default).val.op),(sL (cA (E i) 13) (l.getD i default).val.kids.length (cK (E i) 13))])) (bf (i:=9) rfl rfl rfl (HS.hc a1 (i:=0) rfl) rfl rfl rfl) rfl rfl (aC rfl O (zc (l9 ex (⟨(l.getD i default).val.kind,(l.getD i default).val.n,⟨(l.getD i default).val.name.b⟩,(l.getD i default).val.op,(l.getD i default).val.kids⟩:ExpT) (HS.call a1) (by omega) (by omega) (by omega) a8 (by(simp only[aY];omega))) ?_))));rintro _ f4 ⟨g4,e8,a4,a2,rfl,rfl⟩;replace a2:HS _ _ _ [_] _:=HS.back a1 rfl a2;replace ax:=ax.mono a4;replace T:=T.mono a4;refine aC rfl O (ag (v:=(.bool (decide ((20:Int)<((dpE (⟨(l.getD i default).val.kind,(l.getD i default).val.n,⟨(l.getD i default).val.name.b⟩,(l.getD i default).val.op,(l.getD i default).val.kids⟩:ExpT):Nat):Int))))) (br rfl rfl rfl rfl) rfl rfl (ag (v:=(.bool (decide ((20:Int)<((dpE (⟨(l.getD i default).val.kind,(l.getD i default).val.n,⟨(l.getD i default).val.name.b⟩,(l.getD i default).val.op,(l.getD i default).val.kids⟩:ExpT):Nat):Int))))) (aK rfl O rfl) rfl rfl (zm (.bool (decide ((20:Int)<((dpE (⟨(l.getD i default).val.kind,(l.getD i default).val.n,⟨(l.getD i default).val.name.b⟩,(l.getD i default).val.op,(l.getD i default).val.kids⟩:ExpT):Nat):Int)))) (cj (v:=(decide ((20:Int)<((dpE (⟨(l.getD i default).val.kind,(l.getD i default).val.n,⟨(l.getD i default).val.name.b⟩,(l.getD i default).val.op,(l.getD i default).val.kids⟩:ExpT):Nat):Int)))) rfl rfl (fun U=>?_) (fun U=>?_)))))
    ·have b5:=U;try simp only[BS]at b5
     refine ag (v:=(pT b9 15)) (bo rfl rfl) rfl rfl (aC rfl U (ag (v:=(sL (cA (E i) 15) (l.getD i default).thn.length (cK (E i) 15))) (be (i:=15) rfl rfl (HS.hc a2 (i:=0) rfl) rfl rfl) rfl rfl (aC rfl U (zc (ih (l.getD i default).thn (HS.call a2) ax (by omega) (by omega)) ?_))));rintro _ f5 ⟨g5,fb,b1,a3,rfl,rfl⟩;replace a3:HS _ _ _ [_] _:=HS.back a2 rfl a3;replace T:=T.mono b1;refine ag (v:=(.bool (db (l.getD i default).thn))) (aK rfl U rfl) rfl rfl (zm (.bool (db (l.getD i default).thn)) (cj (v:=(db (l.getD i default).thn)) rfl rfl (fun Y=>?_) (fun Y=>?_)))
     ·have b6:=Y;try simp only[BS]at b6
      refine ag (v:=(pT b9 16)) (bo rfl rfl) rfl rfl (aC rfl Y (ag (v:=(sL (cA (E i) 16) (l.getD i default).els.length (cK (E i) 16))) (be (i:=16) rfl rfl (HS.hc a3 (i:=0) rfl) rfl rfl) rfl rfl (aC rfl Y (zc (ih (l.getD i default).els (HS.call a3) T (by omega) (by omega)) ?_))));rintro _ f6 ⟨g6,fd,dt,b3,rfl,rfl⟩;replace b3:HS _ _ _ [_] _:=HS.back a3 rfl b3;refine ag (v:=(.bool (db (l.getD i default).els))) (aK rfl Y rfl) rfl rfl (aD ?_);exact aw ⟨rfl,⟨_,(fT (fT (fT (fT fR al) a4) b1) dt),HS.sub b3 (List.Sublist.refl _)⟩,(by repeat' first|exact Lr|refine Lu rfl ?_),(agC (congrArg Value.bool (show db (l.getD i default).els=((((decide ((20:Int)<((dpE (⟨(l.getD i default).at_.kind,(l.getD i default).at_.n,⟨(l.getD i default).at_.name.b⟩,(l.getD i default).at_.op,(l.getD i default).at_.kids⟩:ExpT):Nat):Int)))||(decide ((20:Int)<((dpE (⟨(l.getD i default).val.kind,(l.getD i default).val.n,⟨(l.getD i default).val.name.b⟩,(l.getD i default).val.op,(l.getD i default).val.kids⟩:ExpT):Nat):Int))))||db (l.getD i default).thn)||db (l.getD i default).els) by simp only[↓O,↓U,↓Y,BT])) agN)⟩
     have b6:=Y;try simp only[BS]at b6
     refine ah rfl Y rfl (ah rfl Y rfl (ag (v:=(.bool true)) (au rfl Y rfl) rfl rfl (aD ?_)));exact aw ⟨rfl,⟨_,(fT (fT (fT fR al) a4) b1),HS.sub a3 (List.Sublist.refl _)⟩,(by repeat' first|exact Lr|refine Lu rfl ?_),(agC (congrArg Value.bool (show true=((((decide ((20:Int)<((dpE (⟨(l.getD i default).at_.kind,(l.getD i default).at_.n,⟨(l.getD i default).at_.name.b⟩,(l.getD i default).at_.op,(l.getD i default).at_.kids⟩:ExpT):Nat):Int)))||(decide ((20:Int)<((dpE (⟨(l.getD i default).val.kind,(l.getD i default).val.n,⟨(l.getD i default).val.name.b⟩,(l.getD i default).val.op,(l.getD i default).val.kids⟩:ExpT):Nat):Int))))||db (l.getD i default).thn)||db (l.getD i default).els) by simp only[↓O,↓U,↓Y,BT])) agN)⟩
    have b5:=U;try simp only[BS]at b5
    refine ah rfl U rfl (ah rfl U rfl (ag (v:=(.bool true)) (au rfl U rfl) rfl rfl (zm (.bool true) (ah rfl rfl rfl (ah rfl rfl rfl ?_)))));refine ah rfl rfl rfl (ag (v:=(.bool true)) (au rfl rfl rfl) rfl rfl (aD ?_));exact aw ⟨rfl,⟨_,(fT (fT fR al) a4),HS.sub a2 (List.Sublist.refl _)⟩,(by repeat' first|exact Lr|refine Lu rfl ?_),(agC (congrArg Value.bool (show true=((((decide ((20:Int)<((dpE (⟨(l.getD i default).at_.kind,(l.getD i default).at_.n,⟨(l.getD i default).at_.name.b⟩,(l.getD i default).at_.op,(l.getD i default).at_.kids⟩:ExpT):Nat):Int)))||(decide ((20:Int)<((dpE (⟨(l.getD i default).val.kind,(l.getD i default).val.n,⟨(l.getD i default).val.name.b⟩,(l.getD i default).val.op,(l.getD i default).val.kids⟩:ExpT):Nat):Int))))||db (l.getD i default).thn)||db (l.getD i default).els) by simp only[↓O,↓U,BT])) agN)⟩
   have b4:=O;try simp only[BS]at b4
   refine ah rfl O rfl (ah rfl O rfl (ah rfl O rfl (ag (v:=(.bool true)) (au rfl O rfl) rfl rfl (zm (.bool true) (ah rfl rfl rfl ?_)))));refine ah rfl rfl rfl (ah rfl rfl rfl (ag (v:=(.bool true)) (au rfl rfl rfl) rfl rfl (zm (.bool true) (ah rfl rfl rfl (ah rfl rfl rfl ?_)))));refine ah rfl rfl rfl (ag (v:=(.bool true)) (au rfl rfl rfl) rfl rfl (aD ?_));exact aw ⟨rfl,⟨_,(fT fR al),HS.sub a1 (List.Sublist.refl _)⟩,(by repeat' first|exact Lr|refine Lu rfl ?_),(agC (congrArg Value.bool (show true=((((decide ((20:Int)<((dpE (⟨(l.getD i default).at_.kind,(l.getD i default).at_.n,⟨(l.getD i default).at_.name.b⟩,(l.getD i default).at_.op,(l.getD i default).at_.kids⟩:ExpT):Nat):Int)))||(decide ((20:Int)<((dpE (⟨(l.getD i default).val.kind,(l.getD i default).val.n,⟨(l.getD i default).val.name.b⟩,(l.getD i default).val.op,(l.getD i default).val.kids⟩:ExpT):Nat):Int))))||db (l.getD i default).thn)||db (l.getD i default).els) by simp only[↓O,BT])) agN)⟩
  skip;rintro go f1 ⟨d4,a5,cL⟩;replace Z:=Z.mono a5;refine ak 1 rfl (zi 1 2 (fun bb=>?_) fun bb=>?_)
  ·try simp only[BS]at bb
   have a9:=td_y (l:=l) (i:=i) (by omega) (by simpa only[aY] using bb);refine wT 1 [] 2 2 [] [(2,(.bool true))] rfl fun _=>aj ⟨.inr rfl,_,rfl,true,_,(fT (b0) a5),(HS.forget cL),rfl,(h1.trans a9).symm⟩
  try simp only[BS]at bb
  have c3:=td_n (l:=l) (i:=i) (by omega) (by simpa only[aY] using bb);refine wT 2 [] 1 0 [5] [(5,(iI 0))] rfl fun _=>av (fun(mm:Nat) f H'=> ∃(k:Nat) (F':Fz),Fz.le d4 F'/\HS (Base.of H []) F' H' [c9] R/\aQ f [(0,(sL h l.length ar)),(3,(iI (i:Int))),(4,(pT b9 0)),(5,(iI (k:Int)))]/\mm=(l.getD i default).args.length-k/\(db (l.drop i)=anD ((l.getD i default).args.drop k) (db (l.drop (i+1))))/\(k<=(l.getD i default).args.length)) _ ⟨0,_,fR,cL,⟨rfl,rfl,rfl,rfl,trivial⟩,rfl,(c3),(by omega)⟩ ?_
  rintro e6 gm f7 ⟨k,fi,a6,an,co,rfl,g1,hk⟩ d2;refine aE _ co (fun _=>?_);clear co;replace Z:=Z.mono a6;refine ak 2 rfl (wU 1 [(2,.o (sL (cA (E i) 14) (l.getD i default).args.length (cK (E i) 14)))] 36 40 [] [(40,(.bool (decide ((k:Int)<((l.getD i default).args.length:Int)))))] (ql 48 14 (HS.hc an (i:=0) rfl) rfl rfl) rfl fun _=>zd 4 5 (fun d5=>?_) fun d5=>?_)
  ·have qk:=lS (l:=(l.getD i default).args) (i:=k) (by omega);refine ab ?_;obtain⟨ch,c0⟩:=Sv.view (SR.sv Z an);obtain⟨d7,d8,d9,c4⟩:=ExpT.fx (c0 k);let dd:Value:=(aG [(iI ((l.getD i default).args.getD k default).kind),(iI ((l.getD i default).args.getD k default).n),(tX ((l.getD i default).args.getD k default).name.b),(iI ((l.getD i default).args.getD k default).op),(sL (cA (ch k) 4) ((l.getD i default).args.getD k default).kids.length (cK (ch k) 4))])
   refine wRo 5 0 [(1,.o (sL (cA (E i) 14) (l.getD i default).args.length (cK (E i) 14))),(4,.o dd)] 43 47 [] [(47,dd)] (vA (ql 48 14 (HS.hc an (i:=0) rfl) rfl rfl) (vA (Sv.ix (j:=(k:Int)) (SR.sv Z an)) (vA (qn 50 0 5 (ExpT.vw (c0 k)) rfl rfl rfl rfl) trivial))) rfl fun _=>zc (l9 ex ((l.getD i default).args.getD k default) (HS.call an) (by omega) (by omega) (by omega) c4 (by omega)) ?_
   rintro _ f9 ⟨g7,fk,ci,a7,rfl,rfl⟩;replace a7:HS _ _ _ [_] _:=HS.back an rfl a7;refine wTo 1 6 [] 49 49 [] [(49,(.bool (decide ((20:Int)<((dpE ((l.getD i default).args.getD k default):Nat):Int)))))] rfl fun _=>ai 1 rfl (zd 1 2 (fun b8=>?_) fun b8=>?_)
   ·have a9:=an_y (l:=(l.getD i default).args) (i:=k) (b:=db (l.drop (i+1))) (by omega) (by simpa only[aY] using b8);refine wT 1 [] 2 2 [] [(2,(.bool true))] rfl fun _=>aj ⟨.inr rfl,_,rfl,true,_,(fT (fT (fT (b0) a5) a6) ci),(HS.forget a7),rfl,(h1.trans (g1.trans a9)).symm⟩
   have c3:=an_n (l:=(l.getD i default).args) (i:=k) (b:=db (l.drop (i+1))) (by omega) (by simpa only[aY] using b8);refine wU 1 [] 41 42 [5] [(5,(iI ((k:Int)+1)))] (vi (n:=(k:Int)+1)) rfl fun _=>?_
   refine d2 _ _ _ ?_ ⟨k+1,_,(fT (a6) ci),a7,⟨rfl,rfl,rfl,rfl,trivial⟩,rfl,(g1.trans c3),(by omega)⟩;omega
  refine wU 1 [] 10 11 [3] [(3,(iI ((i:Int)+1)))] (vi (n:=(i:Int)+1)) rfl fun _=>?_
  refine d6 _ _ _ ?_ ⟨i+1,_,(fT (fT (b0) a5) a6),(HS.sub an (a08 _ _)),⟨rfl,rfl,trivial⟩,rfl,(h1.trans (g1.trans (an_e (by omega)))),(by omega)⟩;omega
 refine wT 1 [] 2 2 [] [(2,(.bool false))] rfl fun _=>aj ⟨.inr rfl,_,rfl,false,_,(b0),(HS.forget b7),rfl,(h1.trans (td_end (by omega))).symm⟩
theorem tooDeep_c{h:Option Addr}{E:Nat}(l:List StmT)(hs:HS (.of H []) F H [] R)(O:SR F (sL h l.length E) l)(T:eG l<4611686018427387904):kKt ex 89 [(sL h l.length E)] H fun v H'=> ∃(x:Bool) (F':Fz),Fz.le F F'/\HS (.of H []) F' H' [] R/\v= .bool x/\x=db l:=
 lG ex (eG l+1) l hs O T (a0y _)
set_option maxHeartbeats 800000 in
theorem exceeds_c{a2:Option Addr}{a3:Nat}{an:Option Addr}{a1:Nat}(p:PrgT)(hs:HS (.of H []) F H [] R)(b2:SR F (sL an p.arrs.length a1) p.arrs)(a7:SR F (sL a2 p.funs.length a3) p.funs)(hn:SmP p):kKt ex 67 [(aG [(sL an p.arrs.length a1),(sL a2 p.funs.length a3)])] H fun v H'=> ∃(x:Bool) (F':Fz),Fz.le F F'/\HS (.of H []) F' H' [] R/\v= .bool x/\x=exL p:=by
 obtain⟨hx,hy,hr⟩:=hn;refine aB Try.func67 rfl rfl (ak 1 rfl (ab (aJ (cz hs rfl rfl) rfl rfl ?_)));rintro _ H2 _ ⟨b1,rfl,(dn:HS _ _ _ [(fP b1 [(sL an p.arrs.length a1),(sL a2 p.funs.length a3)])] _),_⟩;refine za (.bool false) (ai 3 rfl (wR 1 [(1,.o (sL an p.arrs.length a1)),(6,.o (sL a2 p.funs.length a3))] 9 18 [] [(18,(.bool ((decide ((4:Int)<(p.arrs.length:Int)))||(decide ((8:Int)<(p.funs.length:Int))))))] (vA (ql 36 0 (HS.hc dn (i:=0) rfl) rfl rfl) (vA (fun(g1:(decide ((4:Int)<(p.arrs.length:Int)))=false)=>(ql 37 1 (HS.hc dn (i:=0) rfl) rfl rfl)) trivial)) rfl fun _=>zi 1 3 (fun c4=>?_) fun c4=>?_))
 ·try simp only[BS]at c4
  have b9:=c4;refine wT 1 [] 2 2 [] [(2,(.bool true))] rfl fun _=>aj ⟨.inr rfl,_,rfl,true,_,fR,(HS.forget dn),rfl,(ex_1 b9).symm⟩
 try simp only[BS]at c4
 have b9:=c4;let d5:Fp:=(fP b1 [(sL an p.arrs.length a1),(sL a2 p.funs.length a3)])
 refine wT 2 [] 1 0 [3] [(3,(iI 0))] rfl fun _=>av (fun(mm:Nat) f H'=> ∃(i:Nat) (F':Fz),Fz.le F F'/\HS (Base.of H []) F' H' [d5] R/\aQ f [(1,(pT b1 0)),(3,(iI (i:Int)))]/\mm=p.arrs.length-i/\(p.arrs.any lnB=(p.arrs.drop i).any lnB)/\(i<=p.arrs.length)) _ ⟨0,_,fR,dn,⟨rfl,rfl,trivial⟩,rfl,(by rfl),(by omega)⟩ ?_
 rintro g3 f7 H7 ⟨i,F7,b3,a4,d7,rfl,h1,hi⟩ e2;refine aE _ d7 (fun _=>?_);clear d7;replace b2:=b2.mono b3;replace a7:=a7.mono b3;refine ak 2 rfl (wU 1 [(2,.o (sL an p.arrs.length a1))] 19 23 [] [(23,(.bool (decide ((i:Int)<(p.arrs.length:Int)))))] (ql 36 0 (HS.hc a4 (i:=0) rfl) rfl rfl) rfl fun _=>zd 4 6 (fun c9=>?_) fun c9=>?_)
 ·obtain⟨fb,c0⟩:=Sv.view (SR.sv b2 a4);have e3:=ArrT.fx (c0 i);refine wR 1 [(1,.o (sL an p.arrs.length a1)),(5,.o (iI (p.arrs.getD i default).len)),(9,.o (sL an p.arrs.length a1)),(13,.o (iI (p.arrs.getD i default).len))] 26 41 [] [(41,(.bool ((decide ((p.arrs.getD i default).len<1))||(decide ((16:Int)<(p.arrs.getD i default).len)))))] (vA (ql 36 0 (HS.hc a4 (i:=0) rfl) rfl rfl) (vA (Sv.ix (j:=(i:Int)) (SR.sv b2 a4)) (vA (ql 3 1 (ArrT.vw (c0 i)) rfl rfl) (vA (fun(g1:(decide ((p.arrs.getD i default).len<1))=false)=>(ql 36 0 (HS.hc a4 (i:=0) rfl) rfl rfl)) (vA (fun(g1:(decide ((p.arrs.getD i default).len<1))=false)=>(Sv.ix (j:=(i:Int)) (SR.sv b2 a4) (by omega) (by omega))) (vA (fun(g1:(decide ((p.arrs.getD i default).len<1))=false)=>(ql 3 1 (ArrT.vw (c0 i) (by omega)) rfl rfl)) trivial)))))) rfl fun _=>zi 1 2 (fun b7=>?_) fun b7=>?_
  ·try simp only[BS]at b7
   have dp:=ar_y (l:=p.arrs) (i:=i) (by omega) b7;refine wT 1 [] 2 2 [] [(2,(.bool true))] rfl fun _=>aj ⟨.inr rfl,_,rfl,true,_,(b3),(HS.forget a4),rfl,(ex_2 b9 h1 dp).symm⟩
  try simp only[BS]at b7
  have fz:=ar_n (l:=p.arrs) (i:=i) (by omega) b7;refine wU 1 [] 24 25 [3] [(3,(iI ((i:Int)+1)))] (vi (n:=(i:Int)+1)) rfl fun _=>?_
  refine e2 _ _ _ ?_ ⟨i+1,_,(b3),a4,⟨rfl,rfl,trivial⟩,rfl,(h1.trans fz),(by omega)⟩;omega
 have h2:=h1.trans (any_end (by omega));refine wT 2 [] 1 0 [4] [(4,(iI 0))] rfl fun _=>av (fun(mm:Nat) f H'=> ∃(i:Nat) (F':Fz),Fz.le F7 F'/\HS (Base.of H []) F' H' [d5] R/\aQ f [(1,(pT b1 0)),(4,(iI (i:Int)))]/\mm=p.funs.length-i/\(dpG p.funs=dpG (p.funs.drop i))/\(i<=p.funs.length)) _ ⟨0,_,fR,a4,⟨rfl,rfl,trivial⟩,rfl,(by rfl),(by omega)⟩ ?_
 rintro fd go f1 ⟨i,fi,b4,a8,d2,rfl,g1,hk⟩ et;refine aE _ d2 (fun _=>?_);clear d2;replace a7:=a7.mono b4;refine ak 2 rfl (wU 1 [(2,.o (sL a2 p.funs.length a3))] 42 46 [] [(46,(.bool (decide ((i:Int)<(p.funs.length:Int)))))] (ql 37 1 (HS.hc a8 (i:=0) rfl) rfl rfl) rfl fun _=>zd 4 5 (fun e0=>?_) fun e0=>?_)
 ·have hw:=hr (p.funs.getD i default) (cQ (by omega));refine ab ?_;obtain⟨E,d4⟩:=Sv.view (SR.sv a7 a8);obtain⟨e4,e5,e6,b5,b6,bb,a5⟩:=FunT.fx (d4 i);let d8:Value:=(aG [(tX (p.funs.getD i default).name.b),(sL (cA (E i) 1) (p.funs.getD i default).pars.length (cK (E i) 1)),(sL (cA (E i) 2) (p.funs.getD i default).locs.length (cK (E i) 2)),(sL (cA (E i) 3) (p.funs.getD i default).body.length (cK (E i) 3)),(iI (p.funs.getD i default).val.kind),(iI (p.funs.getD i default).val.n),(tX (p.funs.getD i default).val.name.b),(iI (p.funs.getD i default).val.op),(sL (cA (E i) 8) (p.funs.getD i default).val.kids.length (cK (E i) 8))])
  refine wRo 5 0 [(1,.o (sL a2 p.funs.length a3)),(4,.o d8)] 49 53 [] [(53,d8)] (vA (ql 37 1 (HS.hc a8 (i:=0) rfl) rfl rfl) (vA (Sv.ix (j:=(i:Int)) (SR.sv a7 a8)) (vA (qn 52 0 9 (FunT.vw (d4 i)) rfl rfl rfl rfl) trivial))) rfl fun _=>aJ (aR a8 rfl) rfl rfl ?_
  rintro _ f2 _ ⟨b0,rfl,(em:HS _ _ _ [_,(fP b0 [(tX []),(sL none 0 0),(sL none 0 0),(sL none 0 0),(iI 0),(iI 0),(tX []),(iI 0),(sL none 0 0)])] _),_⟩;refine aH (aq (q:=1) em rfl rfl rfl rfl rfl rfl rfl rfl rfl) rfl ?_;rintro _ f3 _ ⟨(co:HS _ _ _ [_,(fP b0 [(tX (p.funs.getD i default).name.b),(sL (cA (E i) 1) (p.funs.getD i default).pars.length (cK (E i) 1)),(sL (cA (E i) 2) (p.funs.getD i default).locs.length (cK (E i) 2)),(sL (cA (E i) 3) (p.funs.getD i default).body.length (cK (E i) 3)),(iI (p.funs.getD i default).val.kind),(iI (p.funs.getD i default).val.n),(tX (p.funs.getD i default).val.name.b),(iI (p.funs.getD i default).val.op),(sL (cA (E i) 8) (p.funs.getD i default).val.kids.length (cK (E i) 8))])] _),_⟩;refine ai 2 rfl (ab (wUo 2 0 [(1,.o (sL (cA (E i) 3) (p.funs.getD i default).body.length (cK (E i) 3)))] 55 56 [] [(56,(sL (cA (E i) 3) (p.funs.getD i default).body.length (cK (E i) 3)))] (ql 47 3 (HS.hc co (i:=1) rfl) rfl rfl) rfl fun _=>zc (count_c ex (p.funs.getD i default).body 0 (HS.call co) bb (by omega)) ?_));rintro _ f4 ⟨g4,g5,gm,ez,a6,O,rfl,rfl,rfl,rfl⟩;replace O:HS _ _ _ [_,_] _:=HS.back co rfl O;replace b5:=b5.mono a6;replace b6:=b6.mono a6;replace bb:=bb.mono a6;replace a5:=a5.mono a6;refine wTo 7 3 [] 58 60 [6,7,8,54] [(6,(iI ((nSs (p.funs.getD i default).body:Nat):Int))),(7,(iI ((wSs (p.funs.getD i default).body:Nat):Int))),(8,(iI ((dSs (p.funs.getD i default).body 0:Nat):Int)))] rfl fun _=>ai 2 rfl (cX 61 93 [] [(93,(.bool (((((((decide ((6:Int)<((p.funs.getD i default).pars.length:Int)))||(decide ((8:Int)<((p.funs.getD i default).locs.length:Int))))||(decide ((200:Int)<((nSs (p.funs.getD i default).body:Nat):Int))))||(decide ((16:Int)<((wSs (p.funs.getD i default).body:Nat):Int))))||(decide ((20:Int)<((dSs (p.funs.getD i default).body 0:Nat):Int))))||db (p.funs.getD i default).body)||(decide ((20:Int)<((dpE (⟨(p.funs.getD i default).val.kind,(p.funs.getD i default).val.n,⟨(p.funs.getD i default).val.name.b⟩,(p.funs.getD i default).val.op,(p.funs.getD i default).val.kids⟩:ExpT):Nat):Int))))))] (fun H'=> ∃F',Fz.le ez F'/\HS (Base.of H []) F' H' [d5,(fP b0 [(tX (p.funs.getD i default).name.b),(sL (cA (E i) 1) (p.funs.getD i default).pars.length (cK (E i) 1)),(sL (cA (E i) 2) (p.funs.getD i default).locs.length (cK (E i) 2)),(sL (cA (E i) 3) (p.funs.getD i default).body.length (cK (E i) 3)),(iI (p.funs.getD i default).val.kind),(iI (p.funs.getD i default).val.n),(tX (p.funs.getD i default).val.name.b),(iI (p.funs.getD i default).val.op),(sL (cA (E i) 8) (p.funs.getD i default).val.kids.length (cK (E i) 8))])] R) ?_ ?_)
  ·refine ab (ag (v:=(pT b0 1)) (bo rfl rfl) rfl rfl (ag (v:=(sL (cA (E i) 1) (p.funs.getD i default).pars.length (cK (E i) 1))) (be (i:=1) rfl rfl (HS.hc O (i:=1) rfl) rfl rfl) rfl rfl (ag (v:=(iI ((p.funs.getD i default).pars.length:Int))) (fG (α:=Str) rfl rfl (SR.sv b5 O)) rfl rfl (ag (v:=(.bool (decide ((6:Int)<((p.funs.getD i default).pars.length:Int))))) (br rfl rfl rfl rfl) rfl rfl (zm (.bool (decide ((6:Int)<((p.funs.getD i default).pars.length:Int)))) ?_)))));refine cj (v:=(decide ((6:Int)<((p.funs.getD i default).pars.length:Int)))) rfl rfl (fun T=>?_) (fun T=>?_)
   ·have c3:=T;try simp only[BS]at c3
    refine ag (v:=(pT b0 2)) (bo rfl rfl) rfl rfl (aC rfl T (ag (v:=(sL (cA (E i) 2) (p.funs.getD i default).locs.length (cK (E i) 2))) (be (i:=2) rfl rfl (HS.hc O (i:=1) rfl) rfl rfl) rfl rfl (aC rfl T (ag (v:=(iI ((p.funs.getD i default).locs.length:Int))) (fG (α:=Str) rfl rfl (SR.sv b6 O)) rfl rfl (aC rfl T ?_)))));refine ag (v:=(.bool (decide ((8:Int)<((p.funs.getD i default).locs.length:Int))))) (br rfl rfl rfl rfl) rfl rfl (ag (v:=(.bool (decide ((8:Int)<((p.funs.getD i default).locs.length:Int))))) (aK rfl T rfl) rfl rfl (zm (.bool (decide ((8:Int)<((p.funs.getD i default).locs.length:Int)))) (cj (v:=(decide ((8:Int)<((p.funs.getD i default).locs.length:Int)))) rfl rfl (fun U=>?_) (fun U=>?_))))
    ·have c5:=U;try simp only[BS]at c5
     refine zm (iI ((nSs (p.funs.getD i default).body:Nat):Int)) (aC rfl U (ag (v:=(.bool (decide ((200:Int)<((nSs (p.funs.getD i default).body:Nat):Int))))) (br rfl rfl rfl rfl) rfl rfl (ag (v:=(.bool (decide ((200:Int)<((nSs (p.funs.getD i default).body:Nat):Int))))) (aK rfl U rfl) rfl rfl (zm (.bool (decide ((200:Int)<((nSs (p.funs.getD i default).body:Nat):Int)))) (cj (v:=(decide ((200:Int)<((nSs (p.funs.getD i default).body:Nat):Int)))) rfl rfl (fun Z=>?_) (fun Z=>?_))))))
     ·have c6:=Z;try simp only[BS]at c6
      refine zm (iI ((wSs (p.funs.getD i default).body:Nat):Int)) (aC rfl Z (ag (v:=(.bool (decide ((16:Int)<((wSs (p.funs.getD i default).body:Nat):Int))))) (br rfl rfl rfl rfl) rfl rfl (ag (v:=(.bool (decide ((16:Int)<((wSs (p.funs.getD i default).body:Nat):Int))))) (aK rfl Z rfl) rfl rfl (zm (.bool (decide ((16:Int)<((wSs (p.funs.getD i default).body:Nat):Int)))) (cj (v:=(decide ((16:Int)<((wSs (p.funs.getD i default).body:Nat):Int)))) rfl rfl (fun ax=>?_) (fun ax=>?_))))))
      ·have c7:=ax;try simp only[BS]at c7
       refine zm (iI ((dSs (p.funs.getD i default).body 0:Nat):Int)) (aC rfl ax (ag (v:=(.bool (decide ((20:Int)<((dSs (p.funs.getD i default).body 0:Nat):Int))))) (br rfl rfl rfl rfl) rfl rfl (ag (v:=(.bool (decide ((20:Int)<((dSs (p.funs.getD i default).body 0:Nat):Int))))) (aK rfl ax rfl) rfl rfl (zm (.bool (decide ((20:Int)<((dSs (p.funs.getD i default).body 0:Nat):Int)))) (cj (v:=(decide ((20:Int)<((dSs (p.funs.getD i default).body 0:Nat):Int)))) rfl rfl (fun h=>?_) (fun h=>?_))))))
       ·have c8:=h;try simp only[BS]at c8
        refine ag (v:=(pT b0 3)) (bo rfl rfl) rfl rfl (aC rfl h (ag (v:=(sL (cA (E i) 3) (p.funs.getD i default).body.length (cK (E i) 3))) (be (i:=3) rfl rfl (HS.hc O (i:=1) rfl) rfl rfl) rfl rfl (aC rfl h (zc (tooDeep_c ex (p.funs.getD i default).body (HS.call O) bb (by omega)) ?_))));rintro _ f6 ⟨g6,fl,ci,a9,rfl,rfl⟩;replace a9:HS _ _ _ [_,_] _:=HS.back O rfl a9;replace a5:=a5.mono ci;refine ag (v:=(.bool (db (p.funs.getD i default).body))) (aK rfl h rfl) rfl rfl (zm (.bool (db (p.funs.getD i default).body)) (cj (v:=(db (p.funs.getD i default).body)) rfl rfl (fun Y=>?_) (fun Y=>?_)))
        ·have dd:=Y;try simp only[BS]at dd
         refine ag (v:=(pT b0 4)) (bo rfl rfl) rfl rfl (aC rfl Y (ag (v:=(aG [(iI (p.funs.getD i default).val.kind),(iI (p.funs.getD i default).val.n),(tX (p.funs.getD i default).val.name.b),(iI (p.funs.getD i default).val.op),(sL (cA (E i) 8) (p.funs.getD i default).val.kids.length (cK (E i) 8))])) (bf (i:=4) rfl rfl rfl (HS.hc a9 (i:=1) rfl) rfl rfl rfl) rfl rfl (aC rfl Y (zc (l9 ex (⟨(p.funs.getD i default).val.kind,(p.funs.getD i default).val.n,⟨(p.funs.getD i default).val.name.b⟩,(p.funs.getD i default).val.op,(p.funs.getD i default).val.kids⟩:ExpT) (HS.call a9) (by omega) (by omega) (by omega) a5 (by(simp only[aY];omega))) ?_))));rintro _ f9 ⟨g7,fu,ea,cL,rfl,rfl⟩;replace cL:HS _ _ _ [_,_] _:=HS.back a9 rfl cL;refine aC rfl Y (ag (v:=(.bool (decide ((20:Int)<((dpE (⟨(p.funs.getD i default).val.kind,(p.funs.getD i default).val.n,⟨(p.funs.getD i default).val.name.b⟩,(p.funs.getD i default).val.op,(p.funs.getD i default).val.kids⟩:ExpT):Nat):Int))))) (br rfl rfl rfl rfl) rfl rfl (ag (v:=(.bool (decide ((20:Int)<((dpE (⟨(p.funs.getD i default).val.kind,(p.funs.getD i default).val.n,⟨(p.funs.getD i default).val.name.b⟩,(p.funs.getD i default).val.op,(p.funs.getD i default).val.kids⟩:ExpT):Nat):Int))))) (aK rfl Y rfl) rfl rfl (aD ?_)));exact aw ⟨rfl,⟨_,(fT (fT fR ci) ea),HS.sub cL (List.Sublist.refl _)⟩,(by repeat' first|exact Lr|refine Lu rfl ?_),(agC (congrArg Value.bool (show(decide ((20:Int)<((dpE (⟨(p.funs.getD i default).val.kind,(p.funs.getD i default).val.n,⟨(p.funs.getD i default).val.name.b⟩,(p.funs.getD i default).val.op,(p.funs.getD i default).val.kids⟩:ExpT):Nat):Int)))=(((((((decide ((6:Int)<((p.funs.getD i default).pars.length:Int)))||(decide ((8:Int)<((p.funs.getD i default).locs.length:Int))))||(decide ((200:Int)<((nSs (p.funs.getD i default).body:Nat):Int))))||(decide ((16:Int)<((wSs (p.funs.getD i default).body:Nat):Int))))||(decide ((20:Int)<((dSs (p.funs.getD i default).body 0:Nat):Int))))||db (p.funs.getD i default).body)||(decide ((20:Int)<((dpE (⟨(p.funs.getD i default).val.kind,(p.funs.getD i default).val.n,⟨(p.funs.getD i default).val.name.b⟩,(p.funs.getD i default).val.op,(p.funs.getD i default).val.kids⟩:ExpT):Nat):Int)))) by simp only[↓T,↓U,↓Z,↓ax,↓h,↓Y,BT])) agN)⟩
        have dd:=Y;try simp only[BS]at dd
        refine ah rfl Y rfl (ah rfl Y rfl (ah rfl Y rfl (ag (v:=(.bool true)) (au rfl Y rfl) rfl rfl (aD ?_))));exact aw ⟨rfl,⟨_,(fT fR ci),HS.sub a9 (List.Sublist.refl _)⟩,(by repeat' first|exact Lr|refine Lu rfl ?_),(agC (congrArg Value.bool (show true=(((((((decide ((6:Int)<((p.funs.getD i default).pars.length:Int)))||(decide ((8:Int)<((p.funs.getD i default).locs.length:Int))))||(decide ((200:Int)<((nSs (p.funs.getD i default).body:Nat):Int))))||(decide ((16:Int)<((wSs (p.funs.getD i default).body:Nat):Int))))||(decide ((20:Int)<((dSs (p.funs.getD i default).body 0:Nat):Int))))||db (p.funs.getD i default).body)||(decide ((20:Int)<((dpE (⟨(p.funs.getD i default).val.kind,(p.funs.getD i default).val.n,⟨(p.funs.getD i default).val.name.b⟩,(p.funs.getD i default).val.op,(p.funs.getD i default).val.kids⟩:ExpT):Nat):Int)))) by simp only[↓T,↓U,↓Z,↓ax,↓h,↓Y,BT])) agN)⟩
       have c8:=h;try simp only[BS]at c8
       refine ah rfl h rfl (ah rfl h rfl (ag (v:=(.bool true)) (au rfl h rfl) rfl rfl (zm (.bool true) (ah rfl rfl rfl (ah rfl rfl rfl ?_)))));refine ah rfl rfl rfl (ah rfl rfl rfl (ag (v:=(.bool true)) (au rfl rfl rfl) rfl rfl (aD ?_)));exact aw ⟨rfl,⟨_,fR,HS.sub O (List.Sublist.refl _)⟩,(by repeat' first|exact Lr|refine Lu rfl ?_),(agC (congrArg Value.bool (show true=(((((((decide ((6:Int)<((p.funs.getD i default).pars.length:Int)))||(decide ((8:Int)<((p.funs.getD i default).locs.length:Int))))||(decide ((200:Int)<((nSs (p.funs.getD i default).body:Nat):Int))))||(decide ((16:Int)<((wSs (p.funs.getD i default).body:Nat):Int))))||(decide ((20:Int)<((dSs (p.funs.getD i default).body 0:Nat):Int))))||db (p.funs.getD i default).body)||(decide ((20:Int)<((dpE (⟨(p.funs.getD i default).val.kind,(p.funs.getD i default).val.n,⟨(p.funs.getD i default).val.name.b⟩,(p.funs.getD i default).val.op,(p.funs.getD i default).val.kids⟩:ExpT):Nat):Int)))) by simp only[↓T,↓U,↓Z,↓ax,↓h,BT])) agN)⟩
      have c7:=ax;try simp only[BS]at c7
      refine ah rfl ax rfl (ag (v:=(.bool true)) (au rfl ax rfl) rfl rfl (zm (.bool true) (ah rfl rfl rfl (ah rfl rfl rfl (ah rfl rfl rfl ?_)))));refine ag (v:=(.bool true)) (au rfl rfl rfl) rfl rfl (zm (.bool true) (ah rfl rfl rfl (ah rfl rfl rfl (ah rfl rfl rfl (ah rfl rfl rfl ?_)))));refine ag (v:=(.bool true)) (au rfl rfl rfl) rfl rfl (aD ?_);exact aw ⟨rfl,⟨_,fR,HS.sub O (List.Sublist.refl _)⟩,(by repeat' first|exact Lr|refine Lu rfl ?_),(agC (congrArg Value.bool (show true=(((((((decide ((6:Int)<((p.funs.getD i default).pars.length:Int)))||(decide ((8:Int)<((p.funs.getD i default).locs.length:Int))))||(decide ((200:Int)<((nSs (p.funs.getD i default).body:Nat):Int))))||(decide ((16:Int)<((wSs (p.funs.getD i default).body:Nat):Int))))||(decide ((20:Int)<((dSs (p.funs.getD i default).body 0:Nat):Int))))||db (p.funs.getD i default).body)||(decide ((20:Int)<((dpE (⟨(p.funs.getD i default).val.kind,(p.funs.getD i default).val.n,⟨(p.funs.getD i default).val.name.b⟩,(p.funs.getD i default).val.op,(p.funs.getD i default).val.kids⟩:ExpT):Nat):Int)))) by simp only[↓T,↓U,↓Z,↓ax,BT])) agN)⟩
     have c6:=Z;try simp only[BS]at c6
     refine ah rfl Z rfl (ag (v:=(.bool true)) (au rfl Z rfl) rfl rfl (zm (.bool true) (ah rfl rfl rfl (ah rfl rfl rfl (ag (v:=(.bool true)) (au rfl rfl rfl) rfl rfl ?_)))));refine zm (.bool true) (ah rfl rfl rfl (ah rfl rfl rfl (ah rfl rfl rfl (ag (v:=(.bool true)) (au rfl rfl rfl) rfl rfl (zm (.bool true) ?_)))));refine ah rfl rfl rfl (ah rfl rfl rfl (ah rfl rfl rfl (ah rfl rfl rfl (ag (v:=(.bool true)) (au rfl rfl rfl) rfl rfl (aD ?_)))));exact aw ⟨rfl,⟨_,fR,HS.sub O (List.Sublist.refl _)⟩,(by repeat' first|exact Lr|refine Lu rfl ?_),(agC (congrArg Value.bool (show true=(((((((decide ((6:Int)<((p.funs.getD i default).pars.length:Int)))||(decide ((8:Int)<((p.funs.getD i default).locs.length:Int))))||(decide ((200:Int)<((nSs (p.funs.getD i default).body:Nat):Int))))||(decide ((16:Int)<((wSs (p.funs.getD i default).body:Nat):Int))))||(decide ((20:Int)<((dSs (p.funs.getD i default).body 0:Nat):Int))))||db (p.funs.getD i default).body)||(decide ((20:Int)<((dpE (⟨(p.funs.getD i default).val.kind,(p.funs.getD i default).val.n,⟨(p.funs.getD i default).val.name.b⟩,(p.funs.getD i default).val.op,(p.funs.getD i default).val.kids⟩:ExpT):Nat):Int)))) by simp only[↓T,↓U,↓Z,BT])) agN)⟩
    have c5:=U;try simp only[BS]at c5
    refine ah rfl U rfl (ag (v:=(.bool true)) (au rfl U rfl) rfl rfl (zm (.bool true) (ah rfl rfl rfl (ah rfl rfl rfl (ag (v:=(.bool true)) (au rfl rfl rfl) rfl rfl ?_)))));refine zm (.bool true) (ah rfl rfl rfl (ah rfl rfl rfl (ag (v:=(.bool true)) (au rfl rfl rfl) rfl rfl (zm (.bool true) (ah rfl rfl rfl ?_)))));refine ah rfl rfl rfl (ah rfl rfl rfl (ag (v:=(.bool true)) (au rfl rfl rfl) rfl rfl (zm (.bool true) (ah rfl rfl rfl (ah rfl rfl rfl ?_)))));refine ah rfl rfl rfl (ah rfl rfl rfl (ag (v:=(.bool true)) (au rfl rfl rfl) rfl rfl (aD ?_)));exact aw ⟨rfl,⟨_,fR,HS.sub O (List.Sublist.refl _)⟩,(by repeat' first|exact Lr|refine Lu rfl ?_),(agC (congrArg Value.bool (show true=(((((((decide ((6:Int)<((p.funs.getD i default).pars.length:Int)))||(decide ((8:Int)<((p.funs.getD i default).locs.length:Int))))||(decide ((200:Int)<((nSs (p.funs.getD i default).body:Nat):Int))))||(decide ((16:Int)<((wSs (p.funs.getD i default).body:Nat):Int))))||(decide ((20:Int)<((dSs (p.funs.getD i default).body 0:Nat):Int))))||db (p.funs.getD i default).body)||(decide ((20:Int)<((dpE (⟨(p.funs.getD i default).val.kind,(p.funs.getD i default).val.n,⟨(p.funs.getD i default).val.name.b⟩,(p.funs.getD i default).val.op,(p.funs.getD i default).val.kids⟩:ExpT):Nat):Int)))) by simp only[↓T,↓U,BT])) agN)⟩
   have c3:=T;try simp only[BS]at c3
   refine ah rfl T rfl (ah rfl T rfl (ah rfl T rfl (ag (v:=(.bool true)) (au rfl T rfl) rfl rfl (zm (.bool true) (ah rfl rfl rfl ?_)))));refine ah rfl rfl rfl (ag (v:=(.bool true)) (au rfl rfl rfl) rfl rfl (zm (.bool true) (ah rfl rfl rfl (ah rfl rfl rfl (ag (v:=(.bool true)) (au rfl rfl rfl) rfl rfl ?_)))));refine zm (.bool true) (ah rfl rfl rfl (ah rfl rfl rfl (ag (v:=(.bool true)) (au rfl rfl rfl) rfl rfl (zm (.bool true) (ah rfl rfl rfl ?_)))));refine ah rfl rfl rfl (ah rfl rfl rfl (ag (v:=(.bool true)) (au rfl rfl rfl) rfl rfl (zm (.bool true) (ah rfl rfl rfl (ah rfl rfl rfl ?_)))));refine ah rfl rfl rfl (ah rfl rfl rfl (ag (v:=(.bool true)) (au rfl rfl rfl) rfl rfl (aD ?_)));exact aw ⟨rfl,⟨_,fR,HS.sub O (List.Sublist.refl _)⟩,(by repeat' first|exact Lr|refine Lu rfl ?_),(agC (congrArg Value.bool (show true=(((((((decide ((6:Int)<((p.funs.getD i default).pars.length:Int)))||(decide ((8:Int)<((p.funs.getD i default).locs.length:Int))))||(decide ((200:Int)<((nSs (p.funs.getD i default).body:Nat):Int))))||(decide ((16:Int)<((wSs (p.funs.getD i default).body:Nat):Int))))||(decide ((20:Int)<((dSs (p.funs.getD i default).body 0:Nat):Int))))||db (p.funs.getD i default).body)||(decide ((20:Int)<((dpE (⟨(p.funs.getD i default).val.kind,(p.funs.getD i default).val.n,⟨(p.funs.getD i default).val.name.b⟩,(p.funs.getD i default).val.op,(p.funs.getD i default).val.kids⟩:ExpT):Nat):Int)))) by simp only[↓T,BT])) agN)⟩
  skip;rintro g2 f5 ⟨fk,d1,d3⟩;refine ak 1 rfl (zi 1 2 (fun b8=>?_) fun b8=>?_)
  ·try simp only[BS]at b8
   have dp:=dg_y (l:=p.funs) (i:=i) (by omega) (by simpa only[aY] using b8);refine wT 1 [] 2 2 [] [(2,(.bool true))] rfl fun _=>aj ⟨.inr rfl,_,rfl,true,_,(fT (fT (fT (b3) b4) a6) d1),(HS.forget d3),rfl,(ex_3 b9 h2 g1 dp).symm⟩
  try simp only[BS]at b8
  have fz:=dg_n (l:=p.funs) (i:=i) (by omega) (by simpa only[aY] using b8);refine wU 1 [] 47 48 [4] [(4,(iI ((i:Int)+1)))] (vi (n:=(i:Int)+1)) rfl fun _=>?_
  refine et _ _ _ ?_ ⟨i+1,_,(fT (fT (b4) a6) d1),(HS.sub d3 (a08 _ _)),⟨rfl,rfl,trivial⟩,rfl,(g1.trans fz),(by omega)⟩;omega
 refine wT 1 [] 2 2 [] [(2,(.bool false))] rfl fun _=>aj ⟨.inr rfl,_,rfl,false,_,(fT (b3) b4),(HS.forget a8),rfl,((ex_4 b9 h2 (g1.trans (dg_e (by omega)))).symm)⟩
end Go.Proofs.Ytapgbjedgcpffaa.ca
