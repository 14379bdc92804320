/-
The check of the reference: how large and how deep a program is, each function by a symbolic run. No condition but that the program has less than 2^62 parts.
-/
import Derived.Test.YtapgbjedgcpffaaGreatZRL1
import Derived.Test.YtapgbjedgcpffaaGreatZRPT
noncomputable section
namespace Go.Proofs.YtapgbjedgcpffaaGreat.ca
open Go.R
set_option maxRecDepth 10000
set_option linter.unusedVariables false
set_option linter.unusedSimpArgs false
variable (ex:FuncId) {F:Fz} {H:Heap} {R:List Fp}
open w3 l1 pt
instance :DecidableEq Str:=fun a b=>decidable_of_iff (a.b=b.b) ⟨fun h=>by cases a;cases b;simp_all,fun h=>by rw[h]⟩
mutual
def ndE:ExpT->Nat
 |⟨_,_,_,_,ks⟩=>1+im ks
def im:List ExpT->Nat
 | []=>0
 |e::l=>ndE e+im l
end
mutual
def ndS:StmT->Nat
 |⟨_,_,_,_,a,v,ar,t,e⟩=>1+ndE a+ndE v+im ar+fw t+fw e
def fw:List StmT->Nat
 | []=>0
 |s::l=>ndS s+fw l
end
mutual
def dpE:ExpT->Nat
 |⟨_,_,_,_,ks⟩=>km ks
def km:List ExpT->Nat
 | []=>0
 |e::l=>max (1+dpE e) (km l)
end
mutual
def nS:StmT->Nat
 |⟨_,_,_,_,_,_,_,t,e⟩=>1+nSs t+nSs e
def nSs:List StmT->Nat
 | []=>0
 |s::l=>nS s+nSs l
end
mutual
def wS:StmT->Nat
 |⟨k,_,_,_,_,_,_,t,e⟩=>(if k=4 then 1 else 0)+wSs t+wSs e
def wSs:List StmT->Nat
 | []=>0
 |s::l=>wS s+wSs l
end
mutual
def dS:StmT->Nat->Nat
 |⟨_,_,_,_,_,_,_,t,e⟩,d=>max d (max (dSs t (d+1)) (dSs e (d+1)))
def dSs:List StmT->Nat->Nat
 | [],_=>0
 |s::l,d=>max (dS s d) (dSs l d)
end
mutual
def tdS:StmT->Bool
 |⟨_,_,_,_,a,v,ar,t,e⟩=>decide (20<dpE a)||decide (20<dpE v)||dU t||dU e||ar.any fun x=>decide (20<dpE x)
def dU:List StmT->Bool
 | []=>false
 |s::l=>tdS s||dU l
end
def inNm(s:List UInt8):Bool:=bT (s.getD 0 0)&&s.all aR&&decide (1<=s.length)&&decide (s.length<=16)
def vnm(s:List UInt8):Bool:=inNm s&& !eH s
def binO(o:Int):Bool:=decide (4<=o)&&decide (o<=18)
def wfN(k n:Int)(E:List UInt8)(o c:Int):Bool:=
 if k=1 then(((c==0)&&(E==[]))&&(o==0))
 else if k=2 then((((c==0)&&(n==0))&&(o==0))&&vnm E)
 else if k=3 then((((c==1)&&(n==0))&&(o==0))&&vnm E)
 else if k=4 then(((n==0)&&(E==[]))&&(((c==2)&&binO o)||((c==1)&&((o==20)||(o==21)))))
 else if k=5 then((((c==3)&&(n==0))&&(E==[]))&&(o==0))
 else false
mutual
def wfE:ExpT->Bool
 |⟨k,n,nm,o,ks⟩=>fC ks&&wfN k n nm.b o (ks.length:Int)
def fC:List ExpT->Bool
 | []=>true
 |e::l=>wfE e&&fC l
end
def isZ(e:ExpT):Bool:=(((((e.kind==0)&&(e.n==0))&&(e.name.b==[]))&&(e.op==0))&&((e.kids.length:Int)==0))
def onV(s:StmT):Bool:=(((((s.name.b==[])&&(s.to.b==[]))&&(s.n==0))&&isZ s.at_)&&((s.args.length:Int)==0))
def flS(s:StmT):Bool:=((s.thn.length:Int)==0)&&((s.els.length:Int)==0)
def wfK(s:StmT):Bool:=
 if s.kind=1 then((((((flS s&&vnm s.name.b)&&(s.to.b==[]))&&(s.n==0))&&isZ s.at_)&&((s.args.length:Int)==0))&&wfE s.val)
 else if s.kind=2 then((((((flS s&&vnm s.name.b)&&(s.to.b==[]))&&(s.n==0))&&wfE s.at_)&&((s.args.length:Int)==0))&&wfE s.val)
 else if s.kind=3 then(onV s&&wfE s.val)
 else if s.kind=4 then((onV s&&wfE s.val)&&((s.els.length:Int)==0))
 else if s.kind=5 then((flS s&&onV s)&&wfE s.val)
 else if s.kind=6 then(((((flS s&&vnm s.name.b)&&vnm s.to.b)&&(s.n==0))&&isZ s.at_)&&isZ s.val)
 else if s.kind=7 then(((((((flS s&&(s.name.b==[]))&&(s.to.b==[]))&&decide (0<=s.n))&&decide (s.n<=1000000))&&isZ s.at_)&&isZ s.val)&&((s.args.length:Int)==0))
 else false
mutual
def wfS:StmT->Bool
 |⟨k,nm,to,n,a,v,ar,t,e⟩=>fC ar&&wfK ⟨k,nm,to,n,a,v,ar,t,e⟩&&eO t&&eO e
def eO:List StmT->Bool
 | []=>true
 |s::l=>wfS s&&eO l
end
def dpG:List FunT->Bool
 | []=>false
 |f::l=>(decide (6<f.pars.length)||decide (8<f.locs.length)||decide (200<nSs f.body)||decide (16<wSs f.body)||decide (20<dSs f.body 0)||dU f.body||decide (20<dpE f.val))||dpG l
def exL(p:PrgT):Bool:=decide (4<p.arrs.length)||decide (8<p.funs.length)||(p.arrs.any fun a=>decide (a.len<1)||decide (16<a.len))||dpG p.funs
def wfF(f:FunT):Bool:=(([f.name]++f.pars++f.locs).all fun s=>vnm s.b)&&eO f.body&&wfE f.val
def wfP(p:PrgT):Bool:=(p.arrs.all fun a=>vnm a.name.b)&&p.funs.all wfF
def fA(l:List Str)(s:List UInt8):Bool:=l.any fun x=>x.b==s
def jT:List Str->List Str->Bool
 |_,[]=>false
 |seen,s::l=>fA seen s.b||jT (seen++[s]) l
def dupF(E:List Str):List Str->List FunT->Bool
 |_,[]=>false
 |fs,f::l=>fA fs f.name.b||jT E (f.pars++f.locs)||dupF E (fs++[f.name]) l
def dupP(p:PrgT):Bool:=jT [] (p.arrs.map (·.name))||dupF (p.arrs.map (·.name)) [] p.funs
mutual
def dfE(vs aa:List Str):ExpT->Bool
 |⟨k,_,nm,_,ks⟩=>f0 vs aa ks&&((k !=2)||fA vs nm.b)&&((k !=3)||fA aa nm.b)
def f0(vs aa:List Str):List ExpT->Bool
 | []=>true
 |e::l=>dfE vs aa e&&f0 vs aa l
end
def ffN(s:List UInt8):List FunT->Nat->Int
 | [],_=> -1
 |f::l,i=>if f.name.b=s then(i:Int) else ffN s l (i+1)
def ffP(p:PrgT)(s:List UInt8):Int:=ffN s p.funs 0
def swK(vs aa:List Str)(p:PrgT)(s:StmT):Bool:=if s.kind=1 then fA vs s.name.b else if s.kind=6 then(fA vs s.name.b&&decide (0<=ffP p s.to.b)) else if s.kind=2 then fA aa s.name.b else true
def dfK(vs aa:List Str)(p:PrgT)(s:StmT):Bool:=f0 vs aa s.args&&dfE vs aa s.at_&&dfE vs aa s.val&&swK vs aa p s
mutual
def dfS(vs aa:List Str)(p:PrgT):StmT->Bool
 |⟨k,nm,to,n,a,v,ar,t,e⟩=>dfK vs aa p ⟨k,nm,to,n,a,v,ar,t,e⟩&&kE vs aa p t&&kE vs aa p e
def kE(vs aa:List Str)(p:PrgT):List StmT->Bool
 | []=>true
 |s::l=>dfS vs aa p s&&kE vs aa p l
end
def arK(p:PrgT)(s:StmT):Bool:= !((s.kind==6)&&((s.args.length:Int) !=((p.funs.getD (ffP p s.to.b).toNat default).pars.length:Int)))
mutual
def arS(p:PrgT):StmT->Bool
 |⟨k,nm,to,n,a,v,ar,t,e⟩=>arK p ⟨k,nm,to,n,a,v,ar,t,e⟩&&arSs p t&&arSs p e
def arSs(p:PrgT):List StmT->Bool
 | []=>true
 |s::l=>arS p s&&arSs p l
end
def arN(p:PrgT):List Str:=p.arrs.map (·.name)
def dfF(p:PrgT)(f:FunT):Bool:=kE (f.pars++f.locs) (arN p) p f.body&&dfE (f.pars++f.locs) (arN p) f.val
def arF(p:PrgT)(f:FunT):Bool:=arSs p f.body
def chk(p:PrgT):Int:=
 if exL p=true then 6 else if wfP p=false then 2 else if dupP p=true then 4
 else if p.funs.all (dfF p)=false then 3
 else if p.funs.all (arF p)=false then 5 else 0
theorem bp(x:ExpT):(⟨x.kind,x.n,⟨x.name.b⟩,x.op,x.kids⟩:ExpT)=x:=by cases x;rfl
theorem cz{α:Type}{l:List α}{i:Nat}{d:α}(h:i<l.length):l.drop i=l.getD i d::l.drop (i+1):=by rw[a0T h,a08,a09 h];rfl
theorem d5{α:Type}{l:List α}{i:Nat}(h:l.length<=i):l.drop i=[]:=a1r h
theorem nd_e(e:ExpT):ndE e=1+im e.kids:=by cases e;rw[ndE]
theorem j8: ∀l:List ExpT,l.length<=im l
 | []=>a0l _
 |e::l=>by have:=j8 l;have:=nd_e e;rw[im,a02];omega
theorem nu: ∀{l:List ExpT} {i:Nat},i<l.length->ndE (l.getD i default)<=im l
 |e::l,0,_=>by rw[im];exact a1y _ _
 |e::l,i+1,h=>by have:=nu (l:=l) (i:=i) (by simpa using h);rw[im];exact a0g this (Nat.le_add_left _ _)
theorem dp_e(e:ExpT):dpE e=km e.kids:=by cases e;rw[dpE]
theorem nd_mem: ∀{l:List ExpT} {x:ExpT},x∈l->ndE x<=im l
 |e::l,x,h=>by
  rw[im];rcases a0m.1 h with rfl|h
  ·omega
  have:=nd_mem h;omega
theorem exI{P:ExpT->Prop}(h: ∀e:ExpT,(∀x∈e.kids,P x)->P e): ∀(n:Nat) (e:ExpT),ndE e<=n->P e
 |0,e,q=>by rw[nd_e]at q;omega
 |n+1,e,q=>h e fun x E=>exI h n x (by have:=nd_mem E;rw[nd_e]at q;omega)
theorem dps_le: ∀{l:List ExpT},(∀x∈l,dpE x<ndE x)->km l<=im l
 | [],_=>a0l _
 |e::l,h=>by
  rw[km,im];have:=h e (a1h ..);have:=dps_le (l:=l) fun x E=>h x (a0z _ E)
  omega
theorem dp_le(e:ExpT):dpE e<ndE e:=exI (P:=fun e=>dpE e<ndE e) (fun e h=>by rw[dp_e,nd_e];have:=dps_le h;omega) _ e (a07 _)
theorem dp_drop{l:List ExpT}{i:Nat}(h:i<l.length):km (l.drop i)=max (1+dpE (l.getD i default)) (km (l.drop (i+1))):=by rw[cz (d:=default) h,km]
theorem dp_end{l:List ExpT}{i:Nat}(h:l.length<=i):km (l.drop i)=0:=by rw[d5 h,km]
theorem ns_s(s:StmT):ndS s=1+ndE s.at_+ndE s.val+im s.args+fw s.thn+fw s.els:=by cases s;rw[ndS]
theorem mz: ∀l:List StmT,l.length<=fw l
 | []=>a0l _
 |s::l=>by have:=mz l;have:=ns_s s;rw[fw,a02];omega
theorem ns_at: ∀{l:List StmT} {i:Nat},i<l.length->ndS (l.getD i default)<=fw l
 |e::l,0,_=>by rw[fw];exact a1y _ _
 |e::l,i+1,h=>by have:=ns_at (l:=l) (i:=i) (by simpa using h);rw[fw];exact a0g this (Nat.le_add_left _ _)
theorem n_s(s:StmT):nS s=1+nSs s.thn+nSs s.els:=by cases s;rw[nS]
theorem w_s(s:StmT):wS s=(if s.kind=4 then 1 else 0)+wSs s.thn+wSs s.els:=by cases s;rw[wS]
theorem d_s(s:StmT)(d:Nat):dS s d=max d (max (dSs s.thn (d+1)) (dSs s.els (d+1))):=by cases s;rw[dS]
theorem ns_mem: ∀{l:List StmT} {x:StmT},x∈l->ndS x<=fw l
 |e::l,x,h=>by
  rw[fw];rcases a0m.1 h with rfl|h
  ·omega
  have:=ns_mem h;omega
theorem stI{P:StmT->Prop}(h: ∀s:StmT,(∀x∈s.thn,P x)->(∀x∈s.els,P x)->P s): ∀(n:Nat) (s:StmT),ndS s<=n->P s
 |0,s,q=>by rw[ns_s]at q;omega
 |n+1,s,q=>h s (fun x E=>stI h n x (by have:=ns_mem E;rw[ns_s]at q;omega)) fun x E=>stI h n x (by have:=ns_mem E;rw[ns_s]at q;omega)
theorem nwd_l: ∀{l:List StmT},(∀s∈l,nS s<=ndS s/\wS s<=ndS s/\∀d,dS s d<=d+ndS s)->nSs l<=fw l/\wSs l<=fw l/\∀d,dSs l d<=d+fw l
 | [],_=>⟨a07 _,a07 _,fun _=>a0l _⟩
 |s::l,h=>by
  obtain⟨T,U,E⟩:=h s (a1h ..);obtain⟨Y,Z,O⟩:=nwd_l (l:=l) fun x hx=>h x (a0z _ hx)
  rw[nSs,wSs,fw];refine⟨by omega,by omega,fun d=>?_⟩;rw[dSs];have:=E d;have:=O d;omega
theorem nwd_s(s:StmT):nS s<=ndS s/\wS s<=ndS s/\∀d,dS s d<=d+ndS s:=stI (P:=fun s=>nS s<=ndS s/\wS s<=ndS s/\∀d,dS s d<=d+ndS s) (fun s T U=>by
  obtain⟨Y,Z,E⟩:=nwd_l T;obtain⟨b1,b2,O⟩:=nwd_l U;rw[n_s,w_s,ns_s];refine⟨by omega,by split<;>omega,fun d=>?_⟩;rw[d_s];have:=E (d+1);have:=O (d+1);omega) _ s (a07 _)
theorem n_le(l:List StmT):nSs l<=fw l:=(nwd_l fun s _=>nwd_s s).1
theorem w_le(l:List StmT):wSs l<=fw l:=(nwd_l fun s _=>nwd_s s).2.1
theorem d_le(l:List StmT)(d:Nat):dSs l d<=d+fw l:=(nwd_l fun s _=>nwd_s s).2.2 d
theorem n_drop{l:List StmT}{i:Nat}(h:i<l.length):nSs (l.drop i)=1+nSs (l.getD i default).thn+nSs (l.getD i default).els+nSs (l.drop (i+1)):=by rw[cz (d:=default) h,nSs,n_s]
theorem w_drop{l:List StmT}{i:Nat}(h:i<l.length):wSs (l.drop i)=(if(l.getD i default).kind=4 then 1 else 0)+wSs (l.getD i default).thn+wSs (l.getD i default).els+wSs (l.drop (i+1)):=by rw[cz (d:=default) h,wSs,w_s]
theorem d_drop{l:List StmT}{i d:Nat}(h:i<l.length):dSs (l.drop i) d=max (max d (max (dSs (l.getD i default).thn (d+1)) (dSs (l.getD i default).els (d+1)))) (dSs (l.drop (i+1)) d):=by rw[cz (d:=default) h,dSs,d_s]
theorem td_s(s:StmT):tdS s=(decide (20<dpE s.at_)||decide (20<dpE s.val)||dU s.thn||dU s.els||s.args.any fun x=>decide (20<dpE x)):=by cases s;rw[tdS]
theorem td_drop{l:List StmT}{i:Nat}(h:i<l.length):dU (l.drop i)=((decide (20<dpE (l.getD i default).at_)||decide (20<dpE (l.getD i default).val)||dU (l.getD i default).thn||dU (l.getD i default).els||(l.getD i default).args.any fun x=>decide (20<dpE x))||dU (l.drop (i+1))):=by rw[cz (d:=default) h,dU,td_s]
theorem td_end{l:List StmT}{i:Nat}(h:l.length<=i):dU (l.drop i)=false:=by rw[d5 h,dU]
theorem iu{α:Type} [Inhabited α]{p:α->Bool}{l:List α}{i:Nat}(h:i<l.length):(l.drop i).any p=(p (l.getD i default)||(l.drop (i+1)).any p):=by rw[cz (d:=default) h,List.any_cons]
theorem any_end{α:Type}{p:α->Bool}{l:List α}{i:Nat}(h:l.length<=i):(l.drop i).any p=false:=by rw[d5 h,List.any_nil]
theorem all_drop{α:Type} [Inhabited α]{p:α->Bool}{l:List α}{i:Nat}(h:i<l.length):(l.drop i).all p=(p (l.getD i default)&&(l.drop (i+1)).all p):=by rw[cz (d:=default) h,a0o]
theorem l4{α:Type}{p:α->Bool}{l:List α}{i:Nat}(h:l.length<=i):(l.drop i).all p=true:=by rw[d5 h,a19]
def anD(l:List ExpT)(b:Bool):Bool:=(l.any fun x=>decide (20<dpE x))||b
theorem td_y{l:List StmT}{i:Nat}(h:i<l.length)(c:(((20:Int)<(dpE (l.getD i default).at_:Int)\/(20:Int)<(dpE (l.getD i default).val:Int))\/dU (l.getD i default).thn=true)\/dU (l.getD i default).els=true):dU (l.drop i)=true:=by
 rw[td_drop h];rcases c with((c|c)|c)|c
 ·rw[decide_eq_true (show 20<dpE (l.getD i default).at_ by omega)];rfl
 ·rw[decide_eq_true (show 20<dpE (l.getD i default).val by omega),a1A];rfl
 ·rw[c,a1A];rfl
 rw[c,a1A];rfl
theorem td_n{l:List StmT}{i:Nat}(h:i<l.length)(c:((¬(20:Int)<(dpE (l.getD i default).at_:Int)/\¬(20:Int)<(dpE (l.getD i default).val:Int))/\dU (l.getD i default).thn=false)/\dU (l.getD i default).els=false):dU (l.drop i)=anD (l.getD i default).args (dU (l.drop (i+1))):=by rw[td_drop h,decide_eq_false (show ¬20<dpE (l.getD i default).at_ by omega),decide_eq_false (show ¬20<dpE (l.getD i default).val by omega),c.1.2,c.2];rfl
theorem an_y{l:List ExpT}{i:Nat}{b:Bool}(h:i<l.length)(c:(20:Int)<(dpE (l.getD i default):Int)):anD (l.drop i) b=true:=by unfold anD;rw[iu h,decide_eq_true (show 20<dpE (l.getD i default) by omega)];rfl
theorem an_n{l:List ExpT}{i:Nat}{b:Bool}(h:i<l.length)(c: ¬(20:Int)<(dpE (l.getD i default):Int)):anD (l.drop i) b=anD (l.drop (i+1)) b:=by unfold anD;rw[iu h,decide_eq_false (show ¬20<dpE (l.getD i default) by omega)];rfl
theorem an_e{l:List ExpT}{i:Nat}{b:Bool}(h:l.length<=i):anD (l.drop i) b=b:=by unfold anD;rw[any_end h];rfl
def SmP(p:PrgT):Prop:=p.arrs.length<4611686018427387904/\p.funs.length<4611686018427387904/\∀f∈p.funs,f.pars.length<1000000000/\f.locs.length<1000000000/\fw f.body<4611686018427387904/\ndE f.val<4611686018427387904
theorem eJ{α:Type} [Inhabited α]{l:List α}{i:Nat}(h:i<l.length):l.getD i default∈l:=by rw[a08,a09 h];exact a0E h
def lnB(a:ArrT):Bool:=decide (a.len<1)||decide (16<a.len)
theorem ar_y{l:List ArrT}{i:Nat}(h:i<l.length)(c:(l.getD i default).len<1\/16<(l.getD i default).len):(l.drop i).any lnB=true:=by rw[iu h];unfold lnB;rcases c with c|c<;>rw[decide_eq_true c]<;>simp
theorem ar_n{l:List ArrT}{i:Nat}(h:i<l.length)(c: ¬(l.getD i default).len<1/\¬16<(l.getD i default).len):(l.drop i).any lnB=(l.drop (i+1)).any lnB:=by rw[iu h];unfold lnB;rw[decide_eq_false c.1,decide_eq_false c.2];rfl
def dgB(f:FunT):Bool:=decide (6<f.pars.length)||decide (8<f.locs.length)||decide (200<nSs f.body)||decide (16<wSs f.body)||decide (20<dSs f.body 0)||dU f.body||decide (20<dpE f.val)
theorem dg_b{l:List FunT}{i:Nat}(h:i<l.length):dpG (l.drop i)=(dgB (l.getD i default)||dpG (l.drop (i+1))):=by rw[cz (d:=default) h,dpG];rfl
theorem dg_y{l:List FunT}{i:Nat}(h:i<l.length)(c:((((((6:Int)<((l.getD i default).pars.length:Int)\/(8:Int)<((l.getD i default).locs.length:Int))\/(200:Int)<(nSs (l.getD i default).body:Int))\/(16:Int)<(wSs (l.getD i default).body:Int))\/(20:Int)<(dSs (l.getD i default).body 0:Int))\/dU (l.getD i default).body=true)\/(20:Int)<(dpE (l.getD i default).val:Int)):dpG (l.drop i)=true:=by rw[dg_b h];unfold dgB;rw[a0C];left;simp only[a0C,decide_eq_true_eq];exact c.imp (fun c=>c.imp (fun c=>by omega) id) (fun c=>by omega)
theorem dg_n{l:List FunT}{i:Nat}(h:i<l.length)(c:(((((¬(6:Int)<((l.getD i default).pars.length:Int)/\¬(8:Int)<((l.getD i default).locs.length:Int))/\¬(200:Int)<(nSs (l.getD i default).body:Int))/\¬(16:Int)<(wSs (l.getD i default).body:Int))/\¬(20:Int)<(dSs (l.getD i default).body 0:Int))/\dU (l.getD i default).body=false)/\¬(20:Int)<(dpE (l.getD i default).val:Int)):dpG (l.drop i)=dpG (l.drop (i+1)):=by rw[dg_b h];unfold dgB;rw[decide_eq_false (show ¬6<(l.getD i default).pars.length by omega),decide_eq_false (show ¬8<(l.getD i default).locs.length by omega),decide_eq_false (show ¬200<nSs (l.getD i default).body by omega),decide_eq_false (show ¬16<wSs (l.getD i default).body by omega),decide_eq_false (show ¬20<dSs (l.getD i default).body 0 by omega),c.1.2,decide_eq_false (show ¬20<dpE (l.getD i default).val by omega)];rfl
theorem dg_e{l:List FunT}{i:Nat}(h:l.length<=i):dpG (l.drop i)=false:=by rw[d5 h,dpG]
theorem ex_1{p:PrgT}(c:(4:Int)<(p.arrs.length:Int)\/(8:Int)<(p.funs.length:Int)):exL p=true:=by
 unfold exL;rcases c with c|c
 ·rw[decide_eq_true (show 4<p.arrs.length by omega)];rfl
 rw[decide_eq_true (show 8<p.funs.length by omega),a1A];rfl
theorem ex_0{p:PrgT}(c: ¬(4:Int)<(p.arrs.length:Int)/\¬(8:Int)<(p.funs.length:Int)):exL p=(p.arrs.any lnB||dpG p.funs):=by unfold exL;rw[decide_eq_false (show ¬4<p.arrs.length by omega),decide_eq_false (show ¬8<p.funs.length by omega)];rfl
theorem ex_2{p:PrgT}{b:Bool}(c: ¬(4:Int)<(p.arrs.length:Int)/\¬(8:Int)<(p.funs.length:Int))(h:p.arrs.any lnB=b)(hb:b=true):exL p=true:=by rw[ex_0 c,h,hb];rfl
theorem ex_3{p:PrgT}{b:Bool}(c: ¬(4:Int)<(p.arrs.length:Int)/\¬(8:Int)<(p.funs.length:Int))(h:p.arrs.any lnB=false)(g:dpG p.funs=b)(hb:b=true):exL p=true:=by rw[ex_0 c,h,g,hb];rfl
theorem ex_4{p:PrgT}(c: ¬(4:Int)<(p.arrs.length:Int)/\¬(8:Int)<(p.funs.length:Int))(h:p.arrs.any lnB=false)(g:dpG p.funs=false):exL p=false:=by rw[ex_0 c,h,g];rfl
theorem nwd_end{l:List StmT}{i d:Nat}(h:l.length<=i):nSs (l.drop i)=0/\wSs (l.drop i)=0/\dSs (l.drop i) d=0:=by rw[d5 h,nSs,wSs,dSs];exact⟨V,V,V⟩
abbrev Po6(F:Fz)(H:Heap)(R:List Fp)(c_:Int)(v:Value)(H':Heap):Prop:= ∃(x:Int) (F':Fz),Fz.le F F'/\HS (.of H []) F' H' [] R/\v=iI x/\x=c_
theorem depth_c_aux: ∀(fuel:Nat) {T:Option Addr} {Y:Nat} (e:ExpT) {F:Fz} {H:Heap} {R:List Fp} (hs:HS (.of H []) F H [] R) (a0:in64 e.kind) (a1:in64 e.n) (a2:in64 e.op) (E:SR F (sL T e.kids.length Y) e.kids) (hn:ndE e<4611686018427387904),ndE e<fuel->kKt ex 83 [(aG [(iI e.kind),(iI e.n),(tX e.name.b),(iI e.op),(sL T e.kids.length Y)])] H (Po6 F H R ((dpE e:Nat):Int)):=by
 intro fuel;induction fuel with
 |zero=>intros;omega
 |succ fuel ih=>
 intro T Y e F H R hs a0 a1 a2 E hn a4;have b5:=nd_e e;have b6:=j8 e.kids;have a7:=dp_e e;refine av Tryz.func83 V V (ai 1 V (ab (dB (cV hs V V) V V ?_)));rintro _ H2 _ ⟨b1,rfl,a5,_⟩;refine za _ (ah 2 V (wr 3 [] 1 0 [3] [(3,(.int _ 0))] trivial V V fun _=>wr 2 [] 1 0 [4] [(4,(.int _ 0))] trivial V V fun _=>aq (fun(mm:Nat) f H'=> ∃(m:Int) (i:Nat) (F':Fz),Fz.le F F'/\HS _ F' H' [[(b1,.cells [_,_,_,_,_] _ _)]] R/\aJ f [(1,(pT b1 0)),(3,(.int _ m)),(4,(.int _ (i:Int)))]/\mm=e.kids.length-i/\((dpE e:Int)=max m (km (e.kids.drop i):Int))/\(0<=m)/\(i<=e.kids.length)) _ ⟨0,0,_,fR,a5,⟨V,V,V,trivial⟩,V,(by rw[a7,a0U];omega),M,M⟩ ?_));rintro b3 f5 H5 ⟨m,i,F5,Z,O,al,rfl,h1,h0,hi⟩ a6;refine az _ al (fun _=>?_);clear al;replace E:=E.mono Z;refine ai 2 V (cP 1 5 9 [] [(9,(.bool (decide ((i:Int)<(e.kids.length:Int)))))] (Hr_ 2 0 Hn_) O V V fun _=>zd 3 5 (fun c7=>?_) fun c7=>?_)
 ·have qa:=nu (l:=e.kids) (i:=i) M;have qb:=dp_drop (l:=e.kids) (i:=i) M;have qc:=dp_le (e.kids.getD i default);refine ab ?_;obtain⟨b2,an⟩:=Sv.view (SR.sv E O);obtain⟨a9,ba,bb,a3⟩:=ExpT.fx (an i);refine fQ 6 0 12 17 [] [(12,(.int _ m)),(17,(aG [_,_,_,_,_]))] (Hr_ 2 0 (Ha_ (Sv.ix (SR.sv E O)) (Hl_ 5 (qn 42 0 5 (ExpT.vw (an i)) V V V V) Hn_))) O V V fun _=>zc (ih _ (HS.call O) M M M a3 M M) ?_
  rintro _ b0 ⟨b4,bl,ax,U,rfl,rfl⟩;replace U:=HS.back O V U;refine dA 3 7 19 20 [3] [(3,(.int _ (if 1+((dpE (e.kids.getD i _):Nat):Int)>m then 1+((dpE (e.kids.getD i _):Nat):Int) else m)))] (Ha_ (vi) Hn_) V V fun _=>ah 2 V (wr 1 [] 10 11 [4] [(4,(.int _ _))] (vA (vi) trivial) V V fun _=>?_)
  refine a6 _ _ _ ?_ ⟨_,i+1,_,(fT (Z) ax),U,⟨V,V,V,trivial⟩,V,M,M,M⟩;omega
 have qb:=dp_end (l:=e.kids) (i:=i) M;refine wr 1 [] 2 2 [21] [(2,(.int _ m))] trivial V V fun _=>ae ⟨.inr V,_,V,m,_,(Z),(HS.forget O),V,M⟩
theorem nH{E:Option Addr}{O:Nat}(e:ExpT)(hs:HS (.of H []) F H [] R)(T:in64 e.kind)(U:in64 e.n)(Y:in64 e.op)(Z:SR F (sL E e.kids.length O) e.kids)(hn:ndE e<4611686018427387904):kKt ex 83 [(aG [(iI e.kind),(iI e.n),(tX e.name.b),(iI e.op),(sL E e.kids.length O)])] H (Po6 F H R ((dpE e:Nat):Int)):=
 depth_c_aux ex (ndE e+1) e hs T U Y Z hn (a0w _)
abbrev Po7(F:Fz)(H:Heap)(R:List Fp)(Φ:Int->Int->Int->Prop)(v:Value)(H':Heap):Prop:= ∃(n:Int) (w:Int) (d:Int) (F':Fz),Fz.le F F'/\HS (.of H []) F' H' [] R/\v= .tuple ⟨[iI n,iI w,iI d]⟩/\Φ n w d
theorem count_c_aux: ∀(fuel:Nat) {a8:Option Addr} {cl:Nat} (l:List StmT) (deep:Nat) {F:Fz} {H:Heap} {R:List Fp} (hs:HS (.of H []) F H [] R) (hl:SR F (sL a8 l.length cl) l) (hn:deep+fw l<4611686018427387904),fw l<fuel->kKt ex 81 [(sL a8 l.length cl),(iI (deep:Int))] H (Po7 F H R fun n w d=>n=((nSs l:Nat):Int)/\w=((wSs l:Nat):Int)/\d=((dSs l deep:Nat):Int)):=by
 intro fuel;induction fuel with
 |zero=>intros;omega
 |succ fuel ih=>
 intro a8 cl l deep F H R hs hl hn e0;have f2:=mz l;have f3:=n_le l;have f5:=w_le l;have f6:=d_le l deep;refine av Tryz.func81 V V (ai 1 V (wr 2 [] 4 6 [] [(4,(.int _ 0)),(5,(.int _ 0)),(6,(.int _ 0))] trivial V V fun _=>wr 3 [] 1 0 [7,8,9] [(7,(.int _ 0)),(8,(.int _ 0)),(9,(.int _ 0))] trivial V V fun _=>wr 2 [] 1 0 [10] [(10,(.int _ 0))] trivial V V fun _=>aq (fun(mm:Nat) f H'=> ∃(n:Nat) (w:Nat) (m:Int) (i:Nat) (F':Fz),Fz.le F F'/\HS _ F' H' [] R/\aJ f [(0,(sL a8 _ cl)),(1,(.int _ _)),(7,(.int _ (n:Int))),(8,(.int _ (w:Int))),(9,(.int _ m)),(10,(.int _ (i:Int)))]/\mm=l.length-i/\(nSs l=n+nSs (l.drop i))/\(wSs l=w+wSs (l.drop i))/\((dSs l deep:Int)=max m (dSs (l.drop i) deep:Int))/\(0<=m)/\(i<=l.length)) _ ⟨0,0,0,0,_,fR,hs,⟨V,V,V,V,V,V,trivial⟩,V,(by rw[a0U];omega),(by rw[a0U];omega),(by rw[a0U];omega),M,M⟩ ?_));rintro fi f4 H4 ⟨n,w,m,i,F4,an,O,a5,rfl,h1,h2,h3,h0,hi⟩ b2;refine az _ a5 (fun _=>?_);clear a5;replace hl:=hl.mono an;refine ai 2 V (wr 1 [] 17 20 [] [(20,(.bool (decide ((i:Int)<(l.length:Int)))))] trivial V V fun _=>zd 4 5 (fun c6=>?_) fun c6=>?_)
 ·have qa:=ns_at (l:=l) (i:=i) M;have qs:=ns_s (l.getD i default);have qb:=n_drop (l:=l) (i:=i) M;have qc:=w_drop (l:=l) (i:=i) M;have qd:=d_drop (l:=l) (i:=i) (d:=deep) M;refine wr 2 [] 23 24 [7] [(7,(.int _ _))] (vA (vi) trivial) V V fun _=>wr 3 [] 25 27 [9] [(9,(.int _ (if(deep:Int)>m then(deep:Int) else m)))] trivial V V fun _=>?_
  obtain⟨e6,a6⟩:=Sv.view (SR.sv hl O);obtain⟨cm,co,cw,cL,c0,c3,a9,ba,em,b3,b4,b5,b6⟩:=StmT.fx (a6 i);refine wrp 1 28 33 [] [(33,(.bool ((l.getD i _).kind==4)))] (Ha_ (Sv.ix (SR.sv hl O)) (Hl_ 4 (ql 3 0 (StmT.vw (a6 i)) V V) Hn_)) V V fun _=>wk_join (fun f H'=> ∃(U:Nat),H'=H4/\aJ f [(0,(sL a8 l.length cl)),(1,(iI (deep:Int))),(7,(iI ((n:Int)+1))),(8,(iI (U:Int))),(9,(iI (if(deep:Int)>m then(deep:Int) else m))),(10,(iI (i:Int)))]/\(U=w+(if(l.getD i default).kind=4 then 1 else 0))) (fun a2=>?_) ?_
  ·refine zi 0 0 (fun Y=>?_) fun Y=>?_
   ·try simp only[BS]at Y
    refine wr 0 [] 34 35 [8] [(8,(.int _ _))] (vA (vi) trivial) V V fun _=>?_
    exact a2 _ _ ⟨_,V,⟨V,V,V,V,V,V,trivial⟩,(by(rw[if_pos M];done))⟩
   try simp only[BS]at Y
   exact a2 _ _ ⟨w,V,⟨V,V,V,V,V,V,trivial⟩,(by(rw[if_neg M];omega))⟩
  skip;rintro fb H4 ⟨U,rfl,ax,fd⟩;refine az _ ax (fun _=>?_);clear ax;refine ai 2 V (ab ?_);obtain⟨e1,a0⟩:=Sv.view (SR.sv hl O);obtain⟨c4,c5,c7,c8,c9,dd,bb,bl,et,b7,b8,a3,b9⟩:=StmT.fx (a0 i);refine dA 7 0 37 43 [] [(41,(sL _ _ _)),(43,(.int _ _))] (Ha_ (Sv.ix (SR.sv hl O)) (Hl_ 4 (ql 39 15 (StmT.vw (a0 i)) V V) (Ha_ (vi) Hn_))) V V fun _=>zc (ih _ (deep+1) (HS.call O) a3 M M) ?_
  rintro _ e4 ⟨fk,fu,e7,e2,al,E,rfl,rfl,rfl,rfl⟩;replace E:=HS.back O V E;replace hl:=hl.mono al;refine dA 7 8 45 47 [11,12,13,36] [(11,(iI ((nSs (l.getD i default).thn:Nat):Int))),(12,(iI ((wSs (l.getD i default).thn:Nat):Int))),(13,(iI ((dSs (l.getD i default).thn (deep+1):Nat):Int)))] Hn_ (by kernel_rfl) V fun _=>ah 2 V (ab ?_)
  obtain⟨Z,a1⟩:=Sv.view (SR.sv hl E);obtain⟨dk,dn,dt,d1,d2,d3,b0,b1,ez,ch,ci,ck,a4⟩:=StmT.fx (a1 i);refine dA 7 0 49 55 [] [(53,(sL (cA (Z i) 16) (l.getD i default).els.length (cK (Z i) 16))),(55,(iI ((deep:Int)+1)))] (Ha_ (Sv.ix (j:=(i:Int)) (SR.sv hl E)) (Hl_ 4 (ql 39 16 (StmT.vw (a1 i)) V V) (Ha_ (vi (n:=(deep:Int)+1)) Hn_))) (by kernel_rfl) V fun _=>zc (ih (l.getD i default).els (deep+1) (HS.call E) a4 M M) ?_
  rintro _ e5 ⟨fl,f1,e8,e3,a7,T,rfl,rfl,rfl,rfl⟩;replace T:=HS.back E V T;refine dA 7 8 57 59 [14,15,16,48] [(14,(iI ((nSs (l.getD i default).els:Nat):Int))),(15,(iI ((wSs (l.getD i default).els:Nat):Int))),(16,(iI ((dSs (l.getD i default).els (deep+1):Nat):Int)))] Hn_ (by kernel_rfl) V fun _=>ah 1 V (wR 2 [] 60 74 [7,8,9] [(7,(iI ((((n:Int)+1)+((nSs (l.getD i default).thn:Nat):Int))+((nSs (l.getD i default).els:Nat):Int)))),(8,(iI (((U:Int)+((wSs (l.getD i default).thn:Nat):Int))+((wSs (l.getD i default).els:Nat):Int)))),(9,(iI (if(if((dSs (l.getD i default).els (deep+1):Nat):Int)>((dSs (l.getD i default).thn (deep+1):Nat):Int) then((dSs (l.getD i default).els (deep+1):Nat):Int) else((dSs (l.getD i default).thn (deep+1):Nat):Int))>(if(deep:Int)>m then(deep:Int) else m) then(if((dSs (l.getD i default).els (deep+1):Nat):Int)>((dSs (l.getD i default).thn (deep+1):Nat):Int) then((dSs (l.getD i default).els (deep+1):Nat):Int) else((dSs (l.getD i default).thn (deep+1):Nat):Int)) else(if(deep:Int)>m then(deep:Int) else m))))] (vA (vi (n:=((n:Int)+1)+((nSs (l.getD i default).thn:Nat):Int))) (vA (vi (n:=(((n:Int)+1)+((nSs (l.getD i default).thn:Nat):Int))+((nSs (l.getD i default).els:Nat):Int))) (vA (vi (n:=(U:Int)+((wSs (l.getD i default).thn:Nat):Int))) (vA (vi (n:=((U:Int)+((wSs (l.getD i default).thn:Nat):Int))+((wSs (l.getD i default).els:Nat):Int))) trivial)))) V fun _=>wU 1 [] 21 22 [10] [(10,(iI ((i:Int)+1)))] (vi (n:=(i:Int)+1)) V fun _=>?_)
  refine b2 _ _ _ ?_ ⟨((n+1)+(nSs (l.getD i default).thn))+(nSs (l.getD i default).els),(U+(wSs (l.getD i default).thn))+(wSs (l.getD i default).els),(if(if((dSs (l.getD i default).els (deep+1):Nat):Int)>((dSs (l.getD i default).thn (deep+1):Nat):Int) then((dSs (l.getD i default).els (deep+1):Nat):Int) else((dSs (l.getD i default).thn (deep+1):Nat):Int))>(if(deep:Int)>m then(deep:Int) else m) then(if((dSs (l.getD i default).els (deep+1):Nat):Int)>((dSs (l.getD i default).thn (deep+1):Nat):Int) then((dSs (l.getD i default).els (deep+1):Nat):Int) else((dSs (l.getD i default).thn (deep+1):Nat):Int)) else(if(deep:Int)>m then(deep:Int) else m)),i+1,_,(fT (fT (an) al) a7),T,⟨V,V,V,V,V,V,trivial⟩,V,M,M,M,M,M⟩;omega
 have qb:=nwd_end (l:=l) (i:=i) (d:=deep) M;refine wT 1 [] 4 6 [75,76,77] [(4,(iI (n:Int))),(5,(iI (w:Int))),(6,(iI m))] V fun _=>ae ⟨.inr V,_,V,(n:Int),(w:Int),m,_,(an),(HS.forget O),V,M,M,M⟩
theorem count_c{E:Option Addr}{O:Nat}(l:List StmT)(deep:Nat)(hs:HS (.of H []) F H [] R)(T:SR F (sL E l.length O) l)(U:deep+fw l<4611686018427387904):kKt ex 81 [(sL E l.length O),(iI (deep:Int))] H (Po7 F H R fun n w d=>n=((nSs l:Nat):Int)/\w=((wSs l:Nat):Int)/\d=((dSs l deep:Nat):Int)):=
 count_c_aux ex (fw l+1) l deep hs T U (a0w _)
abbrev Po8(F:Fz)(H:Heap)(R:List Fp)(c_:Bool)(v:Value)(H':Heap):Prop:= ∃(x:Bool) (F':Fz),Fz.le F F'/\HS (.of H []) F' H' [] R/\v= .bool x/\x=c_
theorem m5: ∀(fuel:Nat) {ar:Option Addr} {ba:Nat} (l:List StmT) {F:Fz} {H:Heap} {R:List Fp} (hs:HS (.of H []) F H [] R) (hl:SR F (sL ar l.length ba) l) (hn:fw l<4611686018427387904),fw l<fuel->kKt ex 82 [(sL ar l.length ba)] H (Po8 F H R (dU l)):=by
 intro fuel;induction fuel with
 |zero=>intros;omega
 |succ fuel ih=>
 intro ar ba l F H R hs hl hn hf;have g5:=mz l;refine av Tryz.func82 V V (ai 1 V (wr 3 [] 2 2 [] [(2,(.bool false))] trivial V V fun _=>wr 2 [] 1 0 [3] [(3,(.int _ 0))] trivial V V fun _=>aq (fun(mm:Nat) f H'=> ∃(i:Nat) (F':Fz),Fz.le F F'/\HS _ F' H' [] R/\aJ f [(0,(sL ar _ ba)),(3,(.int _ (i:Int)))]/\mm=l.length-i/\(dU l=dU (l.drop i))/\(i<=l.length)) _ ⟨0,_,fR,hs,⟨V,V,trivial⟩,V,k_,M⟩ ?_));rintro f9 f3 H3 ⟨i,F3,a9,b4,co,rfl,h1,hi⟩ c9;refine az _ co (fun _=>?_);clear co;replace hl:=hl.mono a9;refine ai 2 V (wr 1 [] 6 9 [] [(9,(.bool (decide ((i:Int)<(l.length:Int)))))] trivial V V fun _=>zd 4 5 (fun c5=>?_) fun c5=>?_)
 ·have qa:=ns_at (l:=l) (i:=i) M;have qs:=ns_s (l.getD i default);have hq:=j8 (l.getD i default).args;refine ab ?_;obtain⟨E,cw⟩:=Sv.view (SR.sv hl b4);obtain⟨em,et,ez,e0,e1,e2,dt,d1,c6,a7,Z,ax,T⟩:=StmT.fx (cw i);refine dA 4 0 12 15 [] [(15,(aG [_,_,_,_,_,_,_,_,_,_,_,_,_,_,_,_,_]))] (Ha_ (Sv.ix (SR.sv hl b4)) (Hl_ 3 (qn 87 0 17 (StmT.vw (cw i)) V V V V) Hn_)) V V fun _=>zn b4 V fun b9 fi c3=>sgo 1 5 1 0 [] [] (Hr_ 5 0 Hn_) c3 V V fun e3 fk bl=>ah 3 V (cC 16 35 [] [(35,(.bool ((((decide ((20:Int)<((dpE (l.getD i default).at_:Nat):Int)))||(decide ((20:Int)<((dpE (l.getD i default).val:Nat):Int))))||dU (l.getD i default).thn)||dU (l.getD i default).els)))] (fun H'=> ∃F',Fz.le F3 F'/\HS (Base.of H []) F' H' [(fP b9 [(iI (l.getD i default).kind),(tX (l.getD i default).name.b),(tX (l.getD i default).to.b),(iI (l.getD i default).n),(iI (l.getD i default).at_.kind),(iI (l.getD i default).at_.n),(tX (l.getD i default).at_.name.b),(iI (l.getD i default).at_.op),(sL (cA (E i) 8) (l.getD i default).at_.kids.length (cK (E i) 8)),(iI (l.getD i default).val.kind),(iI (l.getD i default).val.n),(tX (l.getD i default).val.name.b),(iI (l.getD i default).val.op),(sL (cA (E i) 13) (l.getD i default).val.kids.length (cK (E i) 13)),(sL (cA (E i) 14) (l.getD i default).args.length (cK (E i) 14)),(sL (cA (E i) 15) (l.getD i default).thn.length (cK (E i) 15)),(sL (cA (E i) 16) (l.getD i default).els.length (cK (E i) 16))])] R) ?_ ?_)
  ·refine ab (ad (v:=(pT b9 4)) (bP V V) V V (ad (v:=(aG [(iI (l.getD i default).at_.kind),(iI (l.getD i default).at_.n),(tX (l.getD i default).at_.name.b),(iI (l.getD i default).at_.op),(sL (cA (E i) 8) (l.getD i default).at_.kids.length (cK (E i) 8))])) (db (i:=4) V V V (h_ bl V) V V V) V V (zc (nH ex (l.getD i default).at_ (HS.call bl) M M M c6 M) ?_)));rintro _ fu ⟨gm,e5,al,a0,rfl,rfl⟩;replace a0:=HS.back bl V a0;replace a7:=a7.mono al;replace ax:=ax.mono al;replace T:=T.mono al;refine ad (v:=(.bool (decide ((20:Int)<((dpE (l.getD i default).at_:Nat):Int))))) (bd V V V V) V V (zm (.bool (decide ((20:Int)<((dpE (l.getD i default).at_:Nat):Int)))) (bX (v:=(decide ((20:Int)<((dpE (l.getD i default).at_:Nat):Int)))) V V (fun O=>?_) (fun O=>?_)))
   ·have b1:=O;try simp only[BS]at b1
    refine ad (v:=(pT b9 9)) (bP V V) V V (aA V O (ad (v:=(aG [(iI (l.getD i default).val.kind),(iI (l.getD i default).val.n),(tX (l.getD i default).val.name.b),(iI (l.getD i default).val.op),(sL (cA (E i) 13) (l.getD i default).val.kids.length (cK (E i) 13))])) (db (i:=9) V V V (h_ a0 V) V V V) V V (aA V O (zc (nH ex (l.getD i default).val (HS.call a0) M M M a7 M) ?_))));rintro _ f1 ⟨go,e6,a3,a1,rfl,rfl⟩;replace a1:=HS.back a0 V a1;replace ax:=ax.mono a3;replace T:=T.mono a3;refine aA V O (ad (v:=(.bool (decide ((20:Int)<((dpE (l.getD i default).val:Nat):Int))))) (bd V V V V) V V (ad (v:=(.bool (decide ((20:Int)<((dpE (l.getD i default).val:Nat):Int))))) (aD V O V) V V (zm (.bool (decide ((20:Int)<((dpE (l.getD i default).val:Nat):Int)))) (bX (v:=(decide ((20:Int)<((dpE (l.getD i default).val:Nat):Int)))) V V (fun U=>?_) (fun U=>?_)))))
    ·have b2:=U;try simp only[BS]at b2
     refine ad (v:=(pT b9 15)) (bP V V) V V (aA V U (ad (v:=(sL (cA (E i) 15) (l.getD i default).thn.length (cK (E i) 15))) (bc (i:=15) V V (h_ a1 V) V V) V V (aA V U (zc (ih (l.getD i default).thn (HS.call a1) ax M M) ?_))));rintro _ f2 ⟨g2,e7,bb,a2,rfl,rfl⟩;replace a2:=HS.back a1 V a2;replace T:=T.mono bb;refine ad (v:=(.bool (dU (l.getD i default).thn))) (aD V U V) V V (zm (.bool (dU (l.getD i default).thn)) (bX (v:=(dU (l.getD i default).thn)) V V (fun Y=>?_) (fun Y=>?_)))
     ·have b3:=Y;try simp only[BS]at b3
      refine ad (v:=(pT b9 16)) (bP V V) V V (aA V Y (ad (v:=(sL (cA (E i) 16) (l.getD i default).els.length (cK (E i) 16))) (bc (i:=16) V V (h_ a2 V) V V) V V (aA V Y (zc (ih (l.getD i default).els (HS.call a2) T M M) ?_))));rintro _ f4 ⟨g3,e8,c0,b0,rfl,rfl⟩;replace b0:=HS.back a2 V b0;refine ad (v:=(.bool (dU (l.getD i default).els))) (aD V Y V) V V (ay ?_);exact ap ⟨V,⟨_,(fT (fT (fT (fT fR al) a3) bb) c0),HS.sub b0 (List.Sublist.refl _)⟩,(by repeat' first|exact Lr|refine Lu V ?_),(agC (congrArg Value.bool (show dU (l.getD i default).els=((((decide ((20:Int)<((dpE (l.getD i default).at_:Nat):Int)))||(decide ((20:Int)<((dpE (l.getD i default).val:Nat):Int))))||dU (l.getD i default).thn)||dU (l.getD i default).els) by simp only[↓O,↓U,↓Y,BT])) agN)⟩
     have b3:=Y;try simp only[BS]at b3
     refine ag V Y V (ag V Y V (ad (v:=(.bool true)) (au V Y V) V V (ay ?_)));exact ap ⟨V,⟨_,(fT (fT (fT fR al) a3) bb),HS.sub a2 (List.Sublist.refl _)⟩,(by repeat' first|exact Lr|refine Lu V ?_),(agC (congrArg Value.bool (show true=((((decide ((20:Int)<((dpE (l.getD i default).at_:Nat):Int)))||(decide ((20:Int)<((dpE (l.getD i default).val:Nat):Int))))||dU (l.getD i default).thn)||dU (l.getD i default).els) by simp only[↓O,↓U,↓Y,BT])) agN)⟩
    have b2:=U;try simp only[BS]at b2
    refine ag V U V (ag V U V (ad (v:=(.bool true)) (au V U V) V V (zm (.bool true) (ag V V V (ag V V V ?_)))));refine ag V V V (ad (v:=(.bool true)) (au V V V) V V (ay ?_));exact ap ⟨V,⟨_,(fT (fT fR al) a3),HS.sub a1 (List.Sublist.refl _)⟩,(by repeat' first|exact Lr|refine Lu V ?_),(agC (congrArg Value.bool (show true=((((decide ((20:Int)<((dpE (l.getD i default).at_:Nat):Int)))||(decide ((20:Int)<((dpE (l.getD i default).val:Nat):Int))))||dU (l.getD i default).thn)||dU (l.getD i default).els) by simp only[↓O,↓U,BT])) agN)⟩
   have b1:=O;try simp only[BS]at b1
   refine ag V O V (ag V O V (ag V O V (ad (v:=(.bool true)) (au V O V) V V (zm (.bool true) (ag V V V ?_)))));refine ag V V V (ag V V V (ad (v:=(.bool true)) (au V V V) V V (zm (.bool true) (ag V V V (ag V V V ?_)))));refine ag V V V (ad (v:=(.bool true)) (au V V V) V V (ay ?_));exact ap ⟨V,⟨_,(fT fR al),HS.sub a0 (List.Sublist.refl _)⟩,(by repeat' first|exact Lr|refine Lu V ?_),(agC (congrArg Value.bool (show true=((((decide ((20:Int)<((dpE (l.getD i default).at_:Nat):Int)))||(decide ((20:Int)<((dpE (l.getD i default).val:Nat):Int))))||dU (l.getD i default).thn)||dU (l.getD i default).els) by simp only[↓O,BT])) agN)⟩
  skip;rintro f8 fl ⟨c7,a4,ch⟩;replace Z:=Z.mono a4;refine ai 1 V (zi 1 2 (fun a8=>?_) fun a8=>?_)
  ·try simp only[BS]at a8
   have cl:=td_y (l:=l) (i:=i) M (by simpa only[bp] using a8);refine wT 1 [] 2 2 [] [(2,(.bool true))] V fun _=>ae ⟨.inr V,_,V,true,_,(fT (a9) a4),(HS.forget ch),V,(h1.trans cl).symm⟩
  try simp only[BS]at a8
  have df:=td_n (l:=l) (i:=i) M (by simpa only[bp] using a8);refine wT 2 [] 1 0 [5] [(5,(iI 0))] V fun _=>aq (fun(mm:Nat) f H'=> ∃(k:Nat) (F':Fz),Fz.le c7 F'/\HS (Base.of H []) F' H' [(fP b9 [(iI (l.getD i default).kind),(tX (l.getD i default).name.b),(tX (l.getD i default).to.b),(iI (l.getD i default).n),(iI (l.getD i default).at_.kind),(iI (l.getD i default).at_.n),(tX (l.getD i default).at_.name.b),(iI (l.getD i default).at_.op),(sL (cA (E i) 8) (l.getD i default).at_.kids.length (cK (E i) 8)),(iI (l.getD i default).val.kind),(iI (l.getD i default).val.n),(tX (l.getD i default).val.name.b),(iI (l.getD i default).val.op),(sL (cA (E i) 13) (l.getD i default).val.kids.length (cK (E i) 13)),(sL (cA (E i) 14) (l.getD i default).args.length (cK (E i) 14)),(sL (cA (E i) 15) (l.getD i default).thn.length (cK (E i) 15)),(sL (cA (E i) 16) (l.getD i default).els.length (cK (E i) 16))])] R/\aJ f [(0,(sL ar l.length ba)),(3,(iI (i:Int))),(4,(pT b9 0)),(5,(iI (k:Int)))]/\mm=(l.getD i default).args.length-k/\(dU (l.drop i)=anD ((l.getD i default).args.drop k) (dU (l.drop (i+1))))/\(k<=(l.getD i default).args.length)) _ ⟨0,_,fR,ch,⟨V,V,V,V,trivial⟩,V,(df),M⟩ ?_
  rintro e4 f7 f5 ⟨k,fb,a5,an,b8,rfl,g1,hk⟩ c4;refine az _ b8 (fun _=>?_);clear b8;replace Z:=Z.mono a5;refine ai 2 V (cP 1 36 40 [] [(40,(.bool (decide ((k:Int)<((l.getD i default).args.length:Int)))))] (Hr_ 2 0 Hn_) an V V fun _=>zd 4 5 (fun c8=>?_) fun c8=>?_)
  ·have qk:=nu (l:=(l.getD i default).args) (i:=k) M;refine ab ?_;obtain⟨b6,ci⟩:=Sv.view (SR.sv Z an);obtain⟨dd,dk,dn,cm⟩:=ExpT.fx (ci k);refine fQ 5 0 43 47 [] [(47,(aG [(iI ((l.getD i default).args.getD k default).kind),(iI ((l.getD i default).args.getD k default).n),(tX ((l.getD i default).args.getD k default).name.b),(iI ((l.getD i default).args.getD k default).op),(sL (cA (b6 k) 4) ((l.getD i default).args.getD k default).kids.length (cK (b6 k) 4))]))] (Hr_ 1 0 (Ha_ (Sv.ix (j:=(k:Int)) (SR.sv Z an)) (Hl_ 4 (qn 42 0 5 (ExpT.vw (ci k)) V V V V) Hn_))) an V V fun _=>zc (nH ex ((l.getD i default).args.getD k default) (HS.call an) M M M cm M) ?_
   rintro _ f6 ⟨g4,fd,b7,a6,rfl,rfl⟩;replace a6:=HS.back an V a6;refine dA 1 6 49 49 [] [(49,(.bool (decide ((20:Int)<((dpE ((l.getD i default).args.getD k default):Nat):Int)))))] Hn_ (by kernel_rfl) V fun _=>ah 1 V (zd 1 2 (fun b5=>?_) fun b5=>?_)
   ·have cl:=an_y (l:=(l.getD i default).args) (i:=k) (b:=dU (l.drop (i+1))) M (by simpa only[bp] using b5);refine wT 1 [] 2 2 [] [(2,(.bool true))] V fun _=>ae ⟨.inr V,_,V,true,_,(fT (fT (fT (a9) a4) a5) b7),(HS.forget a6),V,(h1.trans (g1.trans cl)).symm⟩
   have df:=an_n (l:=(l.getD i default).args) (i:=k) (b:=dU (l.drop (i+1))) M (by simpa only[bp] using b5);refine wU 1 [] 41 42 [5] [(5,(iI ((k:Int)+1)))] (vi (n:=(k:Int)+1)) V fun _=>?_
   refine c4 _ _ _ ?_ ⟨k+1,_,(fT (a5) b7),a6,⟨V,V,V,V,trivial⟩,V,(g1.trans df),M⟩;omega
  refine wU 1 [] 10 11 [3] [(3,(iI ((i:Int)+1)))] (vi (n:=(i:Int)+1)) V fun _=>?_
  refine c9 _ _ _ ?_ ⟨i+1,_,(fT (fT (a9) a4) a5),(HS.sub an (a05 _ _)),⟨V,V,trivial⟩,V,(h1.trans (g1.trans (an_e M))),M⟩;omega
 refine wT 1 [] 2 2 [] [(2,(.bool false))] V fun _=>ae ⟨.inr V,_,V,false,_,(a9),(HS.forget b4),V,(h1.trans (td_end M)).symm⟩
theorem tooDeep_c{E:Option Addr}{O:Nat}(l:List StmT)(hs:HS (.of H []) F H [] R)(T:SR F (sL E l.length O) l)(U:fw l<4611686018427387904):kKt ex 82 [(sL E l.length O)] H (Po8 F H R (dU l)):=
 m5 ex (fw l+1) l hs T U (a0w _)
set_option maxHeartbeats 800000 in
theorem exceeds_c{b5:Option Addr}{ci:Nat}{b4:Option Addr}{ch:Nat}(p:PrgT)(hs:HS (.of H []) F H [] R)(a6:SR F (sL b4 p.arrs.length ch) p.arrs)(a2:SR F (sL b5 p.funs.length ci) p.funs)(hn:SmP p):kKt ex 56 [(aG [(sL b4 p.arrs.length ch),(sL b5 p.funs.length ci)])] H (Po8 F H R (exL p)):=by
 obtain⟨hA,hB,hu⟩:=hn;refine av Tryz.func56 V V (ai 1 V (ab (dB (cV hs V V) V V ?_)));rintro _ H2 _ ⟨b1,rfl,c3,_⟩;refine za (.bool false) (ah 3 V (cP 1 9 18 [] [(18,(.bool ((decide ((4:Int)<(p.arrs.length:Int)))||(decide ((8:Int)<(p.funs.length:Int))))))] (Hr_ 1 0 (Ho_ 6 (.o (sL _ _ _)) (fun(g1:_)=>(ql 28 1 (h_ c3 V) V V)) Hn_)) c3 V V fun _=>zi 1 3 (fun c4=>?_) fun c4=>?_))
 ·try simp only[BS]at c4
  have b3:=c4;refine wr 1 [] 2 2 [] [(2,(.bool true))] trivial V V fun _=>ae ⟨.inr V,_,V,_,_,fR,(HS.forget c3),V,(ex_1 b3).symm⟩
 try simp only[BS]at c4
 have b3:=c4;refine wr 2 [] 1 0 [3] [(3,(.int _ 0))] trivial V V fun _=>aq (fun(mm:Nat) f H'=> ∃(i:Nat) (F':Fz),Fz.le F F'/\HS _ F' H' [[(b1,.cells [_,_] _ _)]] R/\aJ f [(1,(pT b1 0)),(3,(.int _ (i:Int)))]/\mm=p.arrs.length-i/\(p.arrs.any lnB=(p.arrs.drop i).any lnB)/\(i<=p.arrs.length)) _ ⟨0,_,fR,c3,⟨V,V,trivial⟩,V,k_,M⟩ ?_
 rintro go f7 H7 ⟨i,F7,a8,ax,dn,rfl,h1,hi⟩ e0;refine az _ dn (fun _=>?_);clear dn;replace a6:=a6.mono a8;replace a2:=a2.mono a8;refine ai 2 V (cP 1 19 23 [] [(23,(.bool (decide ((i:Int)<(p.arrs.length:Int)))))] (Hr_ 2 0 Hn_) ax V V fun _=>zd 4 6 (fun c9=>?_) fun c9=>?_)
 ·obtain⟨e7,b9⟩:=Sv.view (SR.sv a6 ax);have e1:=ArrT.fx (b9 i);refine cP 1 26 41 [] [(41,(.bool ((decide ((p.arrs.getD i _).len<1))||(decide ((16:Int)<(p.arrs.getD i _).len)))))] (Hr_ 1 0 (Ha_ (Sv.ix (SR.sv a6 ax)) (Hl_ 5 (ql 3 1 (ArrT.vw (b9 i)) V V) (Ho_ 9 (.o (sL _ _ _)) (fun(g1:_)=>(ql 27 0 (h_ ax V) V V)) (Ha_ (fun(g1:_)=>(Sv.ix (SR.sv a6 ax) (by(try simp only[BS]at g1);(first|omega|(dsimp only;omega))) (by(try simp only[BS]at g1);(first|omega|(dsimp only;omega))))) (Ho_ 13 (.o (iI _)) (fun(g1:_)=>(ql 3 1 (ArrT.vw (b9 i) (by(try simp only[BS]at g1);(first|omega|(dsimp only;omega)))) V V)) Hn_)))))) ax V V fun _=>zi 1 2 (fun b0=>?_) fun b0=>?_
  ·try simp only[BS]at b0
   have cv:=ar_y (l:=p.arrs) (i:=i) M b0;refine wr 1 [] 2 2 [] [(2,(.bool true))] trivial V V fun _=>ae ⟨.inr V,_,V,_,_,(a8),(HS.forget ax),V,(ex_2 b3 h1 cv).symm⟩
  try simp only[BS]at b0
  have e6:=ar_n (l:=p.arrs) (i:=i) M b0;refine wr 1 [] 24 25 [3] [(3,(.int _ _))] (vA (vi) trivial) V V fun _=>?_
  refine e0 _ _ _ ?_ ⟨i+1,_,(a8),ax,⟨V,V,trivial⟩,V,(h1.trans e6),M⟩;omega
 have h2:=h1.trans (any_end M);refine wr 2 [] 1 0 [4] [(4,(.int _ 0))] trivial V V fun _=>aq (fun(mm:Nat) f H'=> ∃(i:Nat) (F':Fz),Fz.le F7 F'/\HS _ F' H' _ R/\aJ f [(1,(pT b1 0)),(4,(.int _ (i:Int)))]/\mm=p.funs.length-i/\(dpG p.funs=dpG (p.funs.drop i))/\(i<=p.funs.length)) _ ⟨0,_,fR,ax,⟨V,V,trivial⟩,V,k_,M⟩ ?_
 rintro fb f9 fu ⟨i,fd,a9,a3,c7,rfl,g1,hk⟩ d3;refine az _ c7 (fun _=>?_);clear c7;replace a2:=a2.mono a9;refine ai 2 V (cP 1 42 46 [] [(46,(.bool (decide ((i:Int)<(p.funs.length:Int)))))] (Hr_ 2 0 Hn_) a3 V V fun _=>zd 4 5 (fun et=>?_) fun et=>?_)
 ·have hz:=hu (p.funs.getD i default) (eJ M);refine ab ?_;obtain⟨al,dd⟩:=Sv.view (SR.sv a2 a3);obtain⟨e2,e3,e4,ba,bb,a5,a0⟩:=FunT.fx (dd i);refine fQ 5 0 49 53 [] [(53,(aG [_,_,_,_,_,_,_,_,_]))] (Hr_ 1 0 (Ha_ (Sv.ix (SR.sv a2 a3)) (Hl_ 4 (qn 44 0 9 (FunT.vw (dd i)) V V V V) Hn_))) a3 V V fun _=>zn a3 V fun bl f1 d2=>sgo 1 6 1 0 [] [] (Hr_ 6 1 Hn_) d2 V V fun e8 f2 b7=>ah 2 V (ab (fQ 2 0 55 56 [] [(56,(sL _ _ _))] (Hr_ 1 1 Hn_) b7 V V fun _=>?_))
  refine zc (count_c ex _ 0 (HS.call b7) a5 M) ?_;rintro _ f3 ⟨g2,g3,f8,em,a1,E,rfl,rfl,rfl,rfl⟩;replace E:=HS.back b7 V E;replace ba:=ba.mono a1;replace bb:=bb.mono a1;replace a5:=a5.mono a1;replace a0:=a0.mono a1;refine dA 7 3 58 60 [6,7,8,54] [(6,(.int _ _)),(7,(.int _ _)),(8,(.int _ _))] Hn_ V V fun _=>ah 2 V (cC 61 93 [] [(93,(.bool (((((((decide ((6:Int)<((p.funs.getD i default).pars.length:Int)))||(decide ((8:Int)<((p.funs.getD i default).locs.length:Int))))||(decide ((200:Int)<((nSs (p.funs.getD i default).body:Nat):Int))))||(decide ((16:Int)<((wSs (p.funs.getD i default).body:Nat):Int))))||(decide ((20:Int)<((dSs (p.funs.getD i default).body 0:Nat):Int))))||dU (p.funs.getD i default).body)||(decide ((20:Int)<((dpE (p.funs.getD i default).val:Nat):Int))))))] (fun H'=> ∃F',Fz.le em F'/\HS (Base.of H []) F' H' [(fP b1 [(sL b4 p.arrs.length ch),(sL b5 p.funs.length ci)]),(fP bl [(tX (p.funs.getD i default).name.b),(sL (cA (al i) 1) (p.funs.getD i default).pars.length (cK (al i) 1)),(sL (cA (al i) 2) (p.funs.getD i default).locs.length (cK (al i) 2)),(sL (cA (al i) 3) (p.funs.getD i default).body.length (cK (al i) 3)),(iI (p.funs.getD i default).val.kind),(iI (p.funs.getD i default).val.n),(tX (p.funs.getD i default).val.name.b),(iI (p.funs.getD i default).val.op),(sL (cA (al i) 8) (p.funs.getD i default).val.kids.length (cK (al i) 8))])] R) ?_ ?_)
  ·refine ab (ad (v:=(pT bl 1)) (bP V V) V V (ad (bc (i:=1) V V (i_ E V) V V) V V (ad (gA V V (SR.sv ba E)) V V (ad (bd V V V V) V V (zm (.bool (decide ((6:Int)<((p.funs.getD i _).pars.length:Int)))) ?_)))));refine bX V V (fun O=>?_) (fun O=>?_)
   ·have ck:=O;try simp only[BS]at ck
    refine ad (v:=(pT bl 2)) (bP V V) V V (aA V O (ad (bc (i:=2) V V (i_ E V) V V) V V (aA V O (ad (gA V V (SR.sv bb E)) V V (aA V O ?_)))));refine ad (bd V V V V) V V (ad (v:=(.bool (decide ((8:Int)<((p.funs.getD i _).locs.length:Int))))) (aD V O V) V V (zm (.bool (decide ((8:Int)<((p.funs.getD i _).locs.length:Int)))) (bX V V (fun T=>?_) (fun T=>?_))))
    ·have cm:=T;try simp only[BS]at cm
     refine zm _ (aA V T (ad (bd V V V V) V V (ad (v:=(.bool (decide ((200:Int)<((nSs (p.funs.getD i _).body:Nat):Int))))) (aD V T V) V V (zm (.bool (decide ((200:Int)<((nSs (p.funs.getD i _).body:Nat):Int)))) (bX V V (fun Y=>?_) (fun Y=>?_))))))
     ·have co:=Y;try simp only[BS]at co
      refine zm _ (aA V Y (ad (bd V V V V) V V (ad (v:=(.bool (decide ((16:Int)<((wSs (p.funs.getD i _).body:Nat):Int))))) (aD V Y V) V V (zm (.bool (decide ((16:Int)<((wSs (p.funs.getD i _).body:Nat):Int)))) (bX V V (fun an=>?_) (fun an=>?_))))))
      ·have cw:=an;try simp only[BS]at cw
       refine zm _ (aA V an (ad (bd V V V V) V V (ad (v:=(.bool (decide ((20:Int)<((dSs _ 0:Nat):Int))))) (aD V an V) V V (zm (.bool (decide ((20:Int)<((dSs _ 0:Nat):Int)))) (bX V V (fun Z=>?_) (fun Z=>?_))))))
       ·have cL:=Z;try simp only[BS]at cL
        refine ad (v:=(pT bl 3)) (bP V V) V V (aA V Z (ad (bc (i:=3) V V (i_ E V) V V) V V (aA V Z (zc (tooDeep_c ex _ (HS.call E) a5 M) ?_))));rintro _ f5 ⟨g4,fk,b6,a4,rfl,rfl⟩;replace a4:=HS.back E V a4;replace a0:=a0.mono b6;refine ad (v:=(.bool (dU (p.funs.getD i _).body))) (aD V Z V) V V (zm (.bool (dU (p.funs.getD i _).body)) (bX V V (fun U=>?_) (fun U=>?_)))
        ·have c0:=U;try simp only[BS]at c0
         refine ad (v:=(pT bl 4)) (bP V V) V V (aA V U (ad (v:=(aG [_,_,_,_,_])) (db (i:=4) V V V (i_ a4 V) V V V) V V (aA V U (zc (nH ex _ (HS.call a4) M M M a0 M) ?_))));rintro _ f6 ⟨g5,fl,d1,b8,rfl,rfl⟩;replace b8:=HS.back a4 V b8;refine aA V U (ad (bd V V V V) V V (ad (v:=(.bool (decide ((20:Int)<((dpE (p.funs.getD i _).val:Nat):Int))))) (aD V U V) V V (ay ?_)));exact ap ⟨V,⟨_,(fT (fT fR b6) d1),HS.sub b8 (List.Sublist.refl _)⟩,(by repeat' first|exact Lr|refine Lu V ?_),(agC (congrArg _ (show(decide ((20:Int)<((dpE (p.funs.getD i _).val:Nat):Int)))=(((((((decide ((6:Int)<((p.funs.getD i _).pars.length:Int)))||(decide ((8:Int)<((p.funs.getD i _).locs.length:Int))))||(decide ((200:Int)<((nSs (p.funs.getD i _).body:Nat):Int))))||(decide ((16:Int)<((wSs (p.funs.getD i _).body:Nat):Int))))||(decide ((20:Int)<((dSs _ 0:Nat):Int))))||dU (p.funs.getD i _).body)||(decide ((20:Int)<((dpE (p.funs.getD i _).val:Nat):Int)))) by simp only[↓O,↓T,↓Y,↓an,↓Z,↓U,BT])) agN)⟩
        have c0:=U;try simp only[BS]at c0
        refine ag V U V (ag V U V (ag V U V (ad (v:=(.bool true)) (au V U V) V V (ay ?_))));exact ap ⟨V,⟨_,(fT fR b6),HS.sub a4 (List.Sublist.refl _)⟩,(by repeat' first|exact Lr|refine Lu V ?_),(agC (congrArg _ (show true=(((((((decide ((6:Int)<((p.funs.getD i _).pars.length:Int)))||(decide ((8:Int)<((p.funs.getD i _).locs.length:Int))))||(decide ((200:Int)<((nSs (p.funs.getD i _).body:Nat):Int))))||(decide ((16:Int)<((wSs (p.funs.getD i _).body:Nat):Int))))||(decide ((20:Int)<((dSs _ 0:Nat):Int))))||dU (p.funs.getD i _).body)||(decide ((20:Int)<((dpE (p.funs.getD i _).val:Nat):Int)))) by simp only[↓O,↓T,↓Y,↓an,↓Z,↓U,BT])) agN)⟩
       have cL:=Z;try simp only[BS]at cL
       refine ag V Z V (ag V Z V (ad (v:=(.bool true)) (au V Z V) V V (zm (.bool true) (ag V V V (ag V V V ?_)))));refine ag V V V (ag V V V (ad (v:=(.bool true)) (au V V V) V V (ay ?_)));exact ap ⟨V,⟨_,fR,HS.sub E (List.Sublist.refl _)⟩,(by repeat' first|exact Lr|refine Lu V ?_),(agC (congrArg _ (show true=(((((((decide ((6:Int)<((p.funs.getD i _).pars.length:Int)))||(decide ((8:Int)<((p.funs.getD i _).locs.length:Int))))||(decide ((200:Int)<((nSs (p.funs.getD i _).body:Nat):Int))))||(decide ((16:Int)<((wSs (p.funs.getD i _).body:Nat):Int))))||(decide ((20:Int)<((dSs _ 0:Nat):Int))))||dU (p.funs.getD i _).body)||(decide ((20:Int)<((dpE (p.funs.getD i _).val:Nat):Int)))) by simp only[↓O,↓T,↓Y,↓an,↓Z,BT])) agN)⟩
      have cw:=an;try simp only[BS]at cw
      refine ag V an V (ad (v:=(.bool true)) (au V an V) V V (zm (.bool true) (ag V V V (ag V V V (ag V V V ?_)))));refine ad (v:=(.bool true)) (au V V V) V V (zm (.bool true) (ag V V V (ag V V V (ag V V V (ag V V V ?_)))));refine ad (v:=(.bool true)) (au V V V) V V (ay ?_);exact ap ⟨V,⟨_,fR,HS.sub E (List.Sublist.refl _)⟩,(by repeat' first|exact Lr|refine Lu V ?_),(agC (congrArg _ (show true=(((((((decide ((6:Int)<((p.funs.getD i _).pars.length:Int)))||(decide ((8:Int)<((p.funs.getD i _).locs.length:Int))))||(decide ((200:Int)<((nSs (p.funs.getD i _).body:Nat):Int))))||(decide ((16:Int)<((wSs (p.funs.getD i _).body:Nat):Int))))||(decide ((20:Int)<((dSs _ 0:Nat):Int))))||dU (p.funs.getD i _).body)||(decide ((20:Int)<((dpE (p.funs.getD i _).val:Nat):Int)))) by simp only[↓O,↓T,↓Y,↓an,BT])) agN)⟩
     have co:=Y;try simp only[BS]at co
     refine ag V Y V (ad (v:=(.bool true)) (au V Y V) V V (zm _ (ag V V V (ag V V V (ad (v:=(.bool true)) (au V V V) V V ?_)))));refine zm _ (ag V V V (ag V V V (ag V V V (ad (v:=(.bool true)) (au V V V) V V (zm (.bool true) ?_)))));refine ag V V V (ag V V V (ag V V V (ag V V V (ad (v:=(.bool true)) (au V V V) V V (ay ?_)))));exact ap ⟨V,⟨_,fR,HS.sub E (List.Sublist.refl _)⟩,(by repeat' first|exact Lr|refine Lu V ?_),(agC (congrArg _ (show true=(((((((decide ((6:Int)<((p.funs.getD i _).pars.length:Int)))||(decide ((8:Int)<((p.funs.getD i _).locs.length:Int))))||(decide ((200:Int)<((nSs (p.funs.getD i _).body:Nat):Int))))||(decide ((16:Int)<((wSs (p.funs.getD i _).body:Nat):Int))))||(decide ((20:Int)<((dSs _ 0:Nat):Int))))||dU (p.funs.getD i _).body)||(decide ((20:Int)<((dpE (p.funs.getD i _).val:Nat):Int)))) by simp only[↓O,↓T,↓Y,BT])) agN)⟩
    have cm:=T;try simp only[BS]at cm
    refine ag V T V (ad (v:=(.bool true)) (au V T V) V V (zm _ (ag V V V (ag V V V (ad (v:=(.bool true)) (au V V V) V V ?_)))));refine zm _ (ag V V V (ag V V V (ad (v:=(.bool true)) (au V V V) V V (zm (.bool true) (ag V V V ?_)))));refine ag V V V (ag V V V (ad (v:=(.bool true)) (au V V V) V V (zm (.bool true) (ag V V V (ag V V V ?_)))));refine ag V V V (ag V V V (ad (v:=(.bool true)) (au V V V) V V (ay ?_)));exact ap ⟨V,⟨_,fR,HS.sub E (List.Sublist.refl _)⟩,(by repeat' first|exact Lr|refine Lu V ?_),(agC (congrArg _ (show true=(((((((decide ((6:Int)<((p.funs.getD i _).pars.length:Int)))||(decide ((8:Int)<((p.funs.getD i _).locs.length:Int))))||(decide ((200:Int)<((nSs (p.funs.getD i _).body:Nat):Int))))||(decide ((16:Int)<((wSs (p.funs.getD i _).body:Nat):Int))))||(decide ((20:Int)<((dSs _ 0:Nat):Int))))||dU (p.funs.getD i _).body)||(decide ((20:Int)<((dpE (p.funs.getD i _).val:Nat):Int)))) by simp only[↓O,↓T,BT])) agN)⟩
   have ck:=O;try simp only[BS]at ck
   refine ag V O V (ag V O V (ag V O V (ad (v:=(.bool true)) (au V O V) V V (zm (.bool true) (ag V V V ?_)))));refine ag V V V (ad (v:=(.bool true)) (au V V V) V V (zm _ (ag V V V (ag V V V (ad (v:=(.bool true)) (au V V V) V V ?_)))));refine zm _ (ag V V V (ag V V V (ad (v:=(.bool true)) (au V V V) V V (zm (.bool true) (ag V V V ?_)))));refine ag V V V (ag V V V (ad (v:=(.bool true)) (au V V V) V V (zm (.bool true) (ag V V V (ag V V V ?_)))));refine ag V V V (ag V V V (ad (v:=(.bool true)) (au V V V) V V (ay ?_)));exact ap ⟨V,⟨_,fR,HS.sub E (List.Sublist.refl _)⟩,(by repeat' first|exact Lr|refine Lu V ?_),(agC (congrArg _ (show true=(((((((decide ((6:Int)<((p.funs.getD i _).pars.length:Int)))||(decide ((8:Int)<((p.funs.getD i _).locs.length:Int))))||(decide ((200:Int)<((nSs (p.funs.getD i _).body:Nat):Int))))||(decide ((16:Int)<((wSs (p.funs.getD i _).body:Nat):Int))))||(decide ((20:Int)<((dSs _ 0:Nat):Int))))||dU (p.funs.getD i _).body)||(decide ((20:Int)<((dpE (p.funs.getD i _).val:Nat):Int)))) by simp only[↓O,BT])) agN)⟩
  skip;rintro gm f4 ⟨fi,c6,c8⟩;refine ai 1 V (zi 1 2 (fun b2=>?_) fun b2=>?_)
  ·try simp only[BS]at b2
   have cv:=dg_y (l:=p.funs) (i:=i) M (by simpa only[bp] using b2);refine wr 1 [] 2 2 [] [(2,(.bool true))] trivial V V fun _=>ae ⟨.inr V,_,V,_,_,(fT (fT (fT (a8) a9) a1) c6),(HS.forget c8),V,(ex_3 b3 h2 g1 cv).symm⟩
  try simp only[BS]at b2
  have e6:=dg_n (l:=p.funs) (i:=i) M (by simpa only[bp] using b2);refine wr 1 [] 47 48 [4] [(4,(.int _ _))] (vA (vi) trivial) V V fun _=>?_
  refine d3 _ _ _ ?_ ⟨i+1,_,(fT (fT (a9) a1) c6),(HS.sub c8 (a05 _ _)),⟨V,V,trivial⟩,V,(g1.trans e6),M⟩;omega
 refine wr 1 [] 2 2 [] [(2,(.bool false))] trivial V V fun _=>ae ⟨.inr V,_,V,_,_,(fT (a8) a9),(HS.forget a3),V,((ex_4 b3 h2 (g1.trans (dg_e M))).symm)⟩
end Go.Proofs.YtapgbjedgcpffaaGreat.ca
