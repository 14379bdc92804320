/-
The check of the reference: how large and how deep a program is, each function by a symbolic run. No condition but that the program has less than 2^62 parts.
-/
import Derived.Test.YtkpgbdkkgcdhmaaGreatZPL1
import Derived.Test.YtkpgbdkkgcdhmaaGreatZPPT
noncomputable section
namespace Go.Proofs.YtkpgbdkkgcdhmaaGreat.ca
open Go.R
set_option maxRecDepth 10000
set_option linter.unusedVariables false
set_option linter.unusedSimpArgs false
variable (ex:FuncId) {F:Fz} {H:Heap} {R:List Fp}
open w3 l1 pt
instance :DecidableEq Str:=fun a b=>decidable_of_iff (a.b=b.b) ⟨fun h=>by cases a;cases b;simp_all,fun h=>by rw[h]⟩
mutual
def ndE:ExpT->Nat
 |⟨_,_,_,_,ks⟩=>1+ndEs ks
def ndEs:List ExpT->Nat
 | []=>0
 |e::l=>ndE e+ndEs l
end
mutual
def ndS:StmT->Nat
 |⟨_,_,_,_,a,v,ar,t,e⟩=>1+ndE a+ndE v+ndEs ar+ev t+ev e
def ev:List StmT->Nat
 | []=>0
 |s::l=>ndS s+ev l
end
mutual
def dpE:ExpT->Nat
 |⟨_,_,_,_,ks⟩=>dpEs ks
def dpEs:List ExpT->Nat
 | []=>0
 |e::l=>max (1+dpE e) (dpEs l)
end
mutual
def nS:StmT->Nat
 |⟨_,_,_,_,_,_,_,t,e⟩=>1+nSs t+nSs e
def nSs:List StmT->Nat
 | []=>0
 |s::l=>nS s+nSs l
end
mutual
def wS:StmT->Nat
 |⟨k,_,_,_,_,_,_,t,e⟩=>(if k=4 then 1 else 0)+wSs t+wSs e
def wSs:List StmT->Nat
 | []=>0
 |s::l=>wS s+wSs l
end
mutual
def dS:StmT->Nat->Nat
 |⟨_,_,_,_,_,_,_,t,e⟩,d=>max d (max (dSs t (d+1)) (dSs e (d+1)))
def dSs:List StmT->Nat->Nat
 | [],_=>0
 |s::l,d=>max (dS s d) (dSs l d)
end
mutual
def tdS:StmT->Bool
 |⟨_,_,_,_,a,v,ar,t,e⟩=>decide (20<dpE a)||decide (20<dpE v)||cV t||cV e||ar.any fun x=>decide (20<dpE x)
def cV:List StmT->Bool
 | []=>false
 |s::l=>tdS s||cV l
end
def inNm(s:List UInt8):Bool:=bN (s.getD 0 0)&&s.all bT&&decide (1<=s.length)&&decide (s.length<=16)
def vnm(s:List UInt8):Bool:=inNm s&& !resV s
def binO(o:Int):Bool:=decide (4<=o)&&decide (o<=18)
def wfN(k n:Int)(nm:List UInt8)(o c:Int):Bool:=
 if k=1 then(((c==0)&&(nm==[]))&&(o==0))
 else if k=2 then((((c==0)&&(n==0))&&(o==0))&&vnm nm)
 else if k=3 then((((c==1)&&(n==0))&&(o==0))&&vnm nm)
 else if k=4 then(((n==0)&&(nm==[]))&&(((c==2)&&binO o)||((c==1)&&((o==20)||(o==21)))))
 else if k=5 then((((c==3)&&(n==0))&&(nm==[]))&&(o==0))
 else false
mutual
def wfE:ExpT->Bool
 |⟨k,n,nm,o,ks⟩=>hU ks&&wfN k n nm.b o (ks.length:Int)
def hU:List ExpT->Bool
 | []=>true
 |e::l=>wfE e&&hU l
end
def isZ(e:ExpT):Bool:=(((((e.kind==0)&&(e.n==0))&&(e.name.b==[]))&&(e.op==0))&&((e.kids.length:Int)==0))
def onV(s:StmT):Bool:=(((((s.name.b==[])&&(s.to.b==[]))&&(s.n==0))&&isZ s.at_)&&((s.args.length:Int)==0))
def flS(s:StmT):Bool:=((s.thn.length:Int)==0)&&((s.els.length:Int)==0)
def wfK(s:StmT):Bool:=
 if s.kind=1 then((((((flS s&&vnm s.name.b)&&(s.to.b==[]))&&(s.n==0))&&isZ s.at_)&&((s.args.length:Int)==0))&&wfE s.val)
 else if s.kind=2 then((((((flS s&&vnm s.name.b)&&(s.to.b==[]))&&(s.n==0))&&wfE s.at_)&&((s.args.length:Int)==0))&&wfE s.val)
 else if s.kind=3 then(onV s&&wfE s.val)
 else if s.kind=4 then((onV s&&wfE s.val)&&((s.els.length:Int)==0))
 else if s.kind=5 then((flS s&&onV s)&&wfE s.val)
 else if s.kind=6 then(((((flS s&&vnm s.name.b)&&vnm s.to.b)&&(s.n==0))&&isZ s.at_)&&isZ s.val)
 else if s.kind=7 then(((((((flS s&&(s.name.b==[]))&&(s.to.b==[]))&&decide (0<=s.n))&&decide (s.n<=1000000))&&isZ s.at_)&&isZ s.val)&&((s.args.length:Int)==0))
 else false
mutual
def wfS:StmT->Bool
 |⟨k,nm,to,n,a,v,ar,t,e⟩=>hU ar&&wfK ⟨k,nm,to,n,a,v,ar,t,e⟩&&dJ t&&dJ e
def dJ:List StmT->Bool
 | []=>true
 |s::l=>wfS s&&dJ l
end
def dpG:List FunT->Bool
 | []=>false
 |f::l=>(decide (6<f.pars.length)||decide (8<f.locs.length)||decide (200<nSs f.body)||decide (16<wSs f.body)||decide (20<dSs f.body 0)||cV f.body||decide (20<dpE f.val))||dpG l
def exL(p:PrgT):Bool:=decide (4<p.arrs.length)||decide (8<p.funs.length)||(p.arrs.any fun a=>decide (a.len<1)||decide (16<a.len))||dpG p.funs
def wfF(f:FunT):Bool:=(([f.name]++f.pars++f.locs).all fun s=>vnm s.b)&&dJ f.body&&wfE f.val
def wfP(p:PrgT):Bool:=(p.arrs.all fun a=>vnm a.name.b)&&p.funs.all wfF
def ed(l:List Str)(s:List UInt8):Bool:=l.any fun x=>x.b==s
def gB:List Str->List Str->Bool
 |_,[]=>false
 |seen,s::l=>ed seen s.b||gB (seen++[s]) l
def dupF(A:List Str):List Str->List FunT->Bool
 |_,[]=>false
 |fs,f::l=>ed fs f.name.b||gB A (f.pars++f.locs)||dupF A (fs++[f.name]) l
def dupP(p:PrgT):Bool:=gB [] (p.arrs.map (·.name))||dupF (p.arrs.map (·.name)) [] p.funs
mutual
def dfE(vs aa:List Str):ExpT->Bool
 |⟨k,_,nm,_,ks⟩=>iJ vs aa ks&&((k !=2)||ed vs nm.b)&&((k !=3)||ed aa nm.b)
def iJ(vs aa:List Str):List ExpT->Bool
 | []=>true
 |e::l=>dfE vs aa e&&iJ vs aa l
end
def ffN(s:List UInt8):List FunT->Nat->Int
 | [],_=> -1
 |f::l,i=>if f.name.b=s then(i:Int) else ffN s l (i+1)
def ffP(p:PrgT)(s:List UInt8):Int:=ffN s p.funs 0
def swK(vs aa:List Str)(p:PrgT)(s:StmT):Bool:=if s.kind=1 then ed vs s.name.b else if s.kind=6 then(ed vs s.name.b&&decide (0<=ffP p s.to.b)) else if s.kind=2 then ed aa s.name.b else true
def dfK(vs aa:List Str)(p:PrgT)(s:StmT):Bool:=iJ vs aa s.args&&dfE vs aa s.at_&&dfE vs aa s.val&&swK vs aa p s
mutual
def dfS(vs aa:List Str)(p:PrgT):StmT->Bool
 |⟨k,nm,to,n,a,v,ar,t,e⟩=>dfK vs aa p ⟨k,nm,to,n,a,v,ar,t,e⟩&&jh vs aa p t&&jh vs aa p e
def jh(vs aa:List Str)(p:PrgT):List StmT->Bool
 | []=>true
 |s::l=>dfS vs aa p s&&jh vs aa p l
end
def arK(p:PrgT)(s:StmT):Bool:= !((s.kind==6)&&((s.args.length:Int) !=((p.funs.getD (ffP p s.to.b).toNat default).pars.length:Int)))
mutual
def arS(p:PrgT):StmT->Bool
 |⟨k,nm,to,n,a,v,ar,t,e⟩=>arK p ⟨k,nm,to,n,a,v,ar,t,e⟩&&arSs p t&&arSs p e
def arSs(p:PrgT):List StmT->Bool
 | []=>true
 |s::l=>arS p s&&arSs p l
end
def arN(p:PrgT):List Str:=p.arrs.map (·.name)
def dfF(p:PrgT)(f:FunT):Bool:=jh (f.pars++f.locs) (arN p) p f.body&&dfE (f.pars++f.locs) (arN p) f.val
def arF(p:PrgT)(f:FunT):Bool:=arSs p f.body
def chk(p:PrgT):Int:=
 if exL p=true then 6 else if wfP p=false then 2 else if dupP p=true then 4
 else if p.funs.all (dfF p)=false then 3
 else if p.funs.all (arF p)=false then 5 else 0
theorem aT(x:ExpT):(⟨x.kind,x.n,⟨x.name.b⟩,x.op,x.kids⟩:ExpT)=x:=by cases x;rfl
theorem bQ{α:Type}{l:List α}{i:Nat}{d:α}(h:i<l.length):l.drop i=l.getD i d::l.drop (i+1):=by rw[a0V h,a0b,a09 h];rfl
theorem cP{α:Type}{l:List α}{i:Nat}(h:l.length<=i):l.drop i=[]:=a1f h
theorem nd_e(e:ExpT):ndE e=1+ndEs e.kids:=by cases e;rw[ndE]
theorem iQ: ∀l:List ExpT,l.length<=ndEs l
 | []=>a0r _
 |e::l=>by have:=iQ l;have:=nd_e e;rw[ndEs,a01];omega
theorem lN: ∀{l:List ExpT} {i:Nat},i<l.length->ndE (l.getD i default)<=ndEs l
 |e::l,0,_=>by rw[ndEs];exact Nat.le_add_right _ _
 |e::l,i+1,h=>by have:=lN (l:=l) (i:=i) (by simpa using h);rw[ndEs];exact a0k this (Nat.le_add_left _ _)
theorem dp_e(e:ExpT):dpE e=dpEs e.kids:=by cases e;rw[dpE]
theorem nd_mem: ∀{l:List ExpT} {x:ExpT},x∈l->ndE x<=ndEs l
 |e::l,x,h=>by
  rw[ndEs];rcases a0o.1 h with rfl|h
  ·omega
  have:=nd_mem h;omega
theorem exI{P:ExpT->Prop}(h: ∀e:ExpT,(∀x∈e.kids,P x)->P e): ∀(n:Nat) (e:ExpT),ndE e<=n->P e
 |0,e,q=>by rw[nd_e]at q;omega
 |n+1,e,q=>h e fun x A=>exI h n x (by have:=nd_mem A;rw[nd_e]at q;omega)
theorem dps_le: ∀{l:List ExpT},(∀x∈l,dpE x<ndE x)->dpEs l<=ndEs l
 | [],_=>a0r _
 |e::l,h=>by
  rw[dpEs,ndEs];have:=h e (a0E ..);have:=dps_le (l:=l) fun x A=>h x (a0g _ A)
  omega
theorem dp_le(e:ExpT):dpE e<ndE e:=exI (P:=fun e=>dpE e<ndE e) (fun e h=>by rw[dp_e,nd_e];have:=dps_le h;omega) _ e (a08 _)
theorem dp_drop{l:List ExpT}{i:Nat}(h:i<l.length):dpEs (l.drop i)=max (1+dpE (l.getD i default)) (dpEs (l.drop (i+1))):=by rw[bQ (d:=default) h,dpEs]
theorem dp_end{l:List ExpT}{i:Nat}(h:l.length<=i):dpEs (l.drop i)=0:=by rw[cP h,dpEs]
theorem ns_s(s:StmT):ndS s=1+ndE s.at_+ndE s.val+ndEs s.args+ev s.thn+ev s.els:=by cases s;rw[ndS]
theorem kW: ∀l:List StmT,l.length<=ev l
 | []=>a0r _
 |s::l=>by have:=kW l;have:=ns_s s;rw[ev,a01];omega
theorem ns_at: ∀{l:List StmT} {i:Nat},i<l.length->ndS (l.getD i default)<=ev l
 |e::l,0,_=>by rw[ev];exact Nat.le_add_right _ _
 |e::l,i+1,h=>by have:=ns_at (l:=l) (i:=i) (by simpa using h);rw[ev];exact a0k this (Nat.le_add_left _ _)
theorem n_s(s:StmT):nS s=1+nSs s.thn+nSs s.els:=by cases s;rw[nS]
theorem w_s(s:StmT):wS s=(if s.kind=4 then 1 else 0)+wSs s.thn+wSs s.els:=by cases s;rw[wS]
theorem d_s(s:StmT)(d:Nat):dS s d=max d (max (dSs s.thn (d+1)) (dSs s.els (d+1))):=by cases s;rw[dS]
theorem ns_mem: ∀{l:List StmT} {x:StmT},x∈l->ndS x<=ev l
 |e::l,x,h=>by
  rw[ev];rcases a0o.1 h with rfl|h
  ·omega
  have:=ns_mem h;omega
theorem stI{P:StmT->Prop}(h: ∀s:StmT,(∀x∈s.thn,P x)->(∀x∈s.els,P x)->P s): ∀(n:Nat) (s:StmT),ndS s<=n->P s
 |0,s,q=>by rw[ns_s]at q;omega
 |n+1,s,q=>h s (fun x A=>stI h n x (by have:=ns_mem A;rw[ns_s]at q;omega)) fun x A=>stI h n x (by have:=ns_mem A;rw[ns_s]at q;omega)
theorem nwd_l: ∀{l:List StmT},(∀s∈l,nS s<=ndS s/\wS s<=ndS s/\∀d,dS s d<=d+ndS s)->nSs l<=ev l/\wSs l<=ev l/\∀d,dSs l d<=d+ev l
 | [],_=>⟨a08 _,a08 _,fun _=>a0r _⟩
 |s::l,h=>by
  obtain⟨O,U,A⟩:=h s (a0E ..);obtain⟨a_,Z,E⟩:=nwd_l (l:=l) fun x hx=>h x (a0g _ hx)
  rw[nSs,wSs,ev];refine⟨by omega,by omega,fun d=>?_⟩;rw[dSs];have:=A d;have:=E d;omega
theorem nwd_s(s:StmT):nS s<=ndS s/\wS s<=ndS s/\∀d,dS s d<=d+ndS s:=stI (P:=fun s=>nS s<=ndS s/\wS s<=ndS s/\∀d,dS s d<=d+ndS s) (fun s O U=>by
  obtain⟨a_,Z,A⟩:=nwd_l O;obtain⟨b1,b2,E⟩:=nwd_l U;rw[n_s,w_s,ns_s];refine⟨by omega,by split<;>omega,fun d=>?_⟩;rw[d_s];have:=A (d+1);have:=E (d+1);omega) _ s (a08 _)
theorem n_le(l:List StmT):nSs l<=ev l:=(nwd_l fun s _=>nwd_s s).1
theorem w_le(l:List StmT):wSs l<=ev l:=(nwd_l fun s _=>nwd_s s).2.1
theorem d_le(l:List StmT)(d:Nat):dSs l d<=d+ev l:=(nwd_l fun s _=>nwd_s s).2.2 d
theorem n_drop{l:List StmT}{i:Nat}(h:i<l.length):nSs (l.drop i)=1+nSs (l.getD i default).thn+nSs (l.getD i default).els+nSs (l.drop (i+1)):=by rw[bQ (d:=default) h,nSs,n_s]
theorem w_drop{l:List StmT}{i:Nat}(h:i<l.length):wSs (l.drop i)=(if(l.getD i default).kind=4 then 1 else 0)+wSs (l.getD i default).thn+wSs (l.getD i default).els+wSs (l.drop (i+1)):=by rw[bQ (d:=default) h,wSs,w_s]
theorem d_drop{l:List StmT}{i d:Nat}(h:i<l.length):dSs (l.drop i) d=max (max d (max (dSs (l.getD i default).thn (d+1)) (dSs (l.getD i default).els (d+1)))) (dSs (l.drop (i+1)) d):=by rw[bQ (d:=default) h,dSs,d_s]
theorem td_s(s:StmT):tdS s=(decide (20<dpE s.at_)||decide (20<dpE s.val)||cV s.thn||cV s.els||s.args.any fun x=>decide (20<dpE x)):=by cases s;rw[tdS]
theorem td_drop{l:List StmT}{i:Nat}(h:i<l.length):cV (l.drop i)=((decide (20<dpE (l.getD i default).at_)||decide (20<dpE (l.getD i default).val)||cV (l.getD i default).thn||cV (l.getD i default).els||(l.getD i default).args.any fun x=>decide (20<dpE x))||cV (l.drop (i+1))):=by rw[bQ (d:=default) h,cV,td_s]
theorem td_end{l:List StmT}{i:Nat}(h:l.length<=i):cV (l.drop i)=false:=by rw[cP h,cV]
theorem gT{α:Type} [Inhabited α]{p:α->Bool}{l:List α}{i:Nat}(h:i<l.length):(l.drop i).any p=(p (l.getD i default)||(l.drop (i+1)).any p):=by rw[bQ (d:=default) h,List.any_cons]
theorem any_end{α:Type}{p:α->Bool}{l:List α}{i:Nat}(h:l.length<=i):(l.drop i).any p=false:=by rw[cP h,List.any_nil]
theorem all_drop{α:Type} [Inhabited α]{p:α->Bool}{l:List α}{i:Nat}(h:i<l.length):(l.drop i).all p=(p (l.getD i default)&&(l.drop (i+1)).all p):=by rw[bQ (d:=default) h,a0f]
theorem lD{α:Type}{p:α->Bool}{l:List α}{i:Nat}(h:l.length<=i):(l.drop i).all p=true:=by rw[cP h,a1i]
def anD(l:List ExpT)(b:Bool):Bool:=(l.any fun x=>decide (20<dpE x))||b
theorem td_y{l:List StmT}{i:Nat}(h:i<l.length)(c:(((20:Int)<(dpE (l.getD i default).at_:Int)\/(20:Int)<(dpE (l.getD i default).val:Int))\/cV (l.getD i default).thn=true)\/cV (l.getD i default).els=true):cV (l.drop i)=true:=by
 rw[td_drop h];rcases c with((c|c)|c)|c
 ·rw[decide_eq_true (show 20<dpE (l.getD i default).at_ by omega)];rfl
 ·rw[decide_eq_true (show 20<dpE (l.getD i default).val by omega),a1O];rfl
 ·rw[c,a1O];rfl
 rw[c,a1O];rfl
theorem td_n{l:List StmT}{i:Nat}(h:i<l.length)(c:((¬(20:Int)<(dpE (l.getD i default).at_:Int)/\¬(20:Int)<(dpE (l.getD i default).val:Int))/\cV (l.getD i default).thn=false)/\cV (l.getD i default).els=false):cV (l.drop i)=anD (l.getD i default).args (cV (l.drop (i+1))):=by rw[td_drop h,decide_eq_false (show ¬20<dpE (l.getD i default).at_ by omega),decide_eq_false (show ¬20<dpE (l.getD i default).val by omega),c.1.2,c.2];rfl
theorem an_y{l:List ExpT}{i:Nat}{b:Bool}(h:i<l.length)(c:(20:Int)<(dpE (l.getD i default):Int)):anD (l.drop i) b=true:=by unfold anD;rw[gT h,decide_eq_true (show 20<dpE (l.getD i default) by omega)];rfl
theorem an_n{l:List ExpT}{i:Nat}{b:Bool}(h:i<l.length)(c: ¬(20:Int)<(dpE (l.getD i default):Int)):anD (l.drop i) b=anD (l.drop (i+1)) b:=by unfold anD;rw[gT h,decide_eq_false (show ¬20<dpE (l.getD i default) by omega)];rfl
theorem an_e{l:List ExpT}{i:Nat}{b:Bool}(h:l.length<=i):anD (l.drop i) b=b:=by unfold anD;rw[any_end h];rfl
def SmP(p:PrgT):Prop:=p.arrs.length<4611686018427387904/\p.funs.length<4611686018427387904/\∀f∈p.funs,f.pars.length<1000000000/\f.locs.length<1000000000/\ev f.body<4611686018427387904/\ndE f.val<4611686018427387904
theorem dO{α:Type} [Inhabited α]{l:List α}{i:Nat}(h:i<l.length):l.getD i default∈l:=by rw[a0b,a09 h];exact a1z h
def lnB(a:ArrT):Bool:=decide (a.len<1)||decide (16<a.len)
theorem ar_y{l:List ArrT}{i:Nat}(h:i<l.length)(c:(l.getD i default).len<1\/16<(l.getD i default).len):(l.drop i).any lnB=true:=by rw[gT h];unfold lnB;rcases c with c|c<;>rw[decide_eq_true c]<;>simp
theorem ar_n{l:List ArrT}{i:Nat}(h:i<l.length)(c: ¬(l.getD i default).len<1/\¬16<(l.getD i default).len):(l.drop i).any lnB=(l.drop (i+1)).any lnB:=by rw[gT h];unfold lnB;rw[decide_eq_false c.1,decide_eq_false c.2];rfl
def dgB(f:FunT):Bool:=decide (6<f.pars.length)||decide (8<f.locs.length)||decide (200<nSs f.body)||decide (16<wSs f.body)||decide (20<dSs f.body 0)||cV f.body||decide (20<dpE f.val)
theorem dg_b{l:List FunT}{i:Nat}(h:i<l.length):dpG (l.drop i)=(dgB (l.getD i default)||dpG (l.drop (i+1))):=by rw[bQ (d:=default) h,dpG];rfl
theorem dg_y{l:List FunT}{i:Nat}(h:i<l.length)(c:((((((6:Int)<((l.getD i default).pars.length:Int)\/(8:Int)<((l.getD i default).locs.length:Int))\/(200:Int)<(nSs (l.getD i default).body:Int))\/(16:Int)<(wSs (l.getD i default).body:Int))\/(20:Int)<(dSs (l.getD i default).body 0:Int))\/cV (l.getD i default).body=true)\/(20:Int)<(dpE (l.getD i default).val:Int)):dpG (l.drop i)=true:=by rw[dg_b h];unfold dgB;rw[a0P];left;simp only[a0P,decide_eq_true_eq];exact c.imp (fun c=>c.imp (fun c=>by omega) id) (fun c=>by omega)
theorem dg_n{l:List FunT}{i:Nat}(h:i<l.length)(c:(((((¬(6:Int)<((l.getD i default).pars.length:Int)/\¬(8:Int)<((l.getD i default).locs.length:Int))/\¬(200:Int)<(nSs (l.getD i default).body:Int))/\¬(16:Int)<(wSs (l.getD i default).body:Int))/\¬(20:Int)<(dSs (l.getD i default).body 0:Int))/\cV (l.getD i default).body=false)/\¬(20:Int)<(dpE (l.getD i default).val:Int)):dpG (l.drop i)=dpG (l.drop (i+1)):=by rw[dg_b h];unfold dgB;rw[decide_eq_false (show ¬6<(l.getD i default).pars.length by omega),decide_eq_false (show ¬8<(l.getD i default).locs.length by omega),decide_eq_false (show ¬200<nSs (l.getD i default).body by omega),decide_eq_false (show ¬16<wSs (l.getD i default).body by omega),decide_eq_false (show ¬20<dSs (l.getD i default).body 0 by omega),c.1.2,decide_eq_false (show ¬20<dpE (l.getD i default).val by omega)];rfl
theorem dg_e{l:List FunT}{i:Nat}(h:l.length<=i):dpG (l.drop i)=false:=by rw[cP h,dpG]
theorem ex_1{p:PrgT}(c:(4:Int)<(p.arrs.length:Int)\/(8:Int)<(p.funs.length:Int)):exL p=true:=by
 unfold exL;rcases c with c|c
 ·rw[decide_eq_true (show 4<p.arrs.length by omega)];rfl
 rw[decide_eq_true (show 8<p.funs.length by omega),a1O];rfl
theorem ex_0{p:PrgT}(c: ¬(4:Int)<(p.arrs.length:Int)/\¬(8:Int)<(p.funs.length:Int)):exL p=(p.arrs.any lnB||dpG p.funs):=by unfold exL;rw[decide_eq_false (show ¬4<p.arrs.length by omega),decide_eq_false (show ¬8<p.funs.length by omega)];rfl
theorem ex_2{p:PrgT}{b:Bool}(c: ¬(4:Int)<(p.arrs.length:Int)/\¬(8:Int)<(p.funs.length:Int))(h:p.arrs.any lnB=b)(A:b=true):exL p=true:=by rw[ex_0 c,h,A];rfl
theorem ex_3{p:PrgT}{b:Bool}(c: ¬(4:Int)<(p.arrs.length:Int)/\¬(8:Int)<(p.funs.length:Int))(h:p.arrs.any lnB=false)(g:dpG p.funs=b)(A:b=true):exL p=true:=by rw[ex_0 c,h,g,A];rfl
theorem ex_4{p:PrgT}(c: ¬(4:Int)<(p.arrs.length:Int)/\¬(8:Int)<(p.funs.length:Int))(h:p.arrs.any lnB=false)(g:dpG p.funs=false):exL p=false:=by rw[ex_0 c,h,g];rfl
theorem nwd_end{l:List StmT}{i d:Nat}(h:l.length<=i):nSs (l.drop i)=0/\wSs (l.drop i)=0/\dSs (l.drop i) d=0:=by rw[cP h,nSs,wSs,dSs];exact⟨V,V,V⟩
theorem depth_c_aux: ∀(fuel:Nat) {O:Option Addr} {U:Nat} (e:ExpT) {F:Fz} {H:Heap} {R:List Fp} (hs:HS (.of H []) F H [] R) (aA:in64 e.kind) (a0:in64 e.n) (a1:in64 e.op) (A:SR F (sL O e.kids.length U) e.kids) (hn:ndE e<4611686018427387904),ndE e<fuel->kKt ex 69 [(aG [(iI e.kind),(iI e.n),(tX e.name.b),(iI e.op),(sL O e.kids.length U)])] H fun v H'=> ∃(x:Int) (F':Fz),Fz.le F F'/\HS (.of H []) F' H' [] R/\v=iI x/\x=((dpE e:Nat):Int):=by
 intro fuel;induction fuel with
 |zero=>intros;omega
 |succ fuel ih=>
 intro O U e F H R hs aA a0 a1 A hn a7;have bt:=nd_e e;have bw:=iQ e.kids;have a6:=dp_e e;refine av Tryz.func69 V V (ai 1 V (ab (bc (aX hs V V) V V ?_)));rintro _ H2 _ ⟨b1,rfl,a4,_⟩;refine za (iI 0) (ag 2 V (wT 3 [] 1 0 [3] [(3,(iI 0))] V fun _=>wT 2 [] 1 0 [4] [(4,(iI 0))] V fun _=>aj (fun(mm:Nat) f H'=> ∃(m:Int) (i:Nat) (F':Fz),Fz.le F F'/\HS (Base.of H []) F' H' [(fP b1 [(iI e.kind),(iI e.n),(tX e.name.b),(iI e.op),(sL O e.kids.length U)])] R/\aC f [(1,(pT b1 0)),(3,(iI m)),(4,(iI (i:Int)))]/\mm=e.kids.length-i/\((dpE e:Int)=max m (dpEs (e.kids.drop i):Int))/\(0<=m)/\(i<=e.kids.length)) _ ⟨0,0,_,fR,a4,⟨V,V,V,trivial⟩,V,(by rw[a6,a0I];omega),M,M⟩ ?_));rintro bl f5 H5 ⟨m,i,F5,Z,E,an,rfl,h1,h0,hi⟩ a5;refine ap _ an (fun _=>?_);clear an;replace A:=A.mono Z;refine ai 2 V (bH 1 5 9 [] [(9,(.bool (decide ((i:Int)<(e.kids.length:Int)))))] (Hr_ 2 0 Hn_) E V V fun _=>zd 3 5 (fun c7=>?_) fun c7=>?_)
 ·have qa:=lN (l:=e.kids) (i:=i) M;have qb:=dp_drop (l:=e.kids) (i:=i) M;have qc:=dp_le (e.kids.getD i default);refine ab ?_;obtain⟨al,ar⟩:=Sv.view (SR.sv A E);obtain⟨a8,a9,ba,a2⟩:=ExpT.fx (ar i);refine bW 6 0 12 17 [] [(12,(iI m)),(17,(aG [(iI (e.kids.getD i default).kind),(iI (e.kids.getD i default).n),(tX (e.kids.getD i default).name.b),(iI (e.kids.getD i default).op),(sL (cA (al i) 4) (e.kids.getD i default).kids.length (cK (al i) 4))]))] (Hr_ 2 0 (Ha_ (Sv.ix (j:=(i:Int)) (SR.sv A E)) (Hl_ 5 (qn 46 0 5 (ExpT.vw (ar i)) V V V V) Hn_))) E V V fun _=>zc (ih (e.kids.getD i default) (HS.call E) M M M a2 M M) ?_
  rintro _ bf ⟨bn,bb,ax,a_,rfl,rfl⟩;replace a_:=HS.back E V a_;refine bV 3 7 19 20 [3] [(3,(iI (if 1+((dpE (e.kids.getD i default):Nat):Int)>m then 1+((dpE (e.kids.getD i default):Nat):Int) else m)))] (Ha_ (vi (n:=1+((dpE (e.kids.getD i default):Nat):Int))) Hn_) (by kernel_rfl) V fun _=>ag 2 V (wU 1 [] 10 11 [4] [(4,(iI ((i:Int)+1)))] (vi (n:=(i:Int)+1)) V fun _=>?_)
  refine a5 _ _ _ ?_ ⟨(if 1+((dpE (e.kids.getD i default):Nat):Int)>m then 1+((dpE (e.kids.getD i default):Nat):Int) else m),i+1,_,(fT (Z) ax),a_,⟨V,V,V,trivial⟩,V,M,M,M⟩;omega
 have qb:=dp_end (l:=e.kids) (i:=i) M;refine wT 1 [] 2 2 [21] [(2,(iI m))] V fun _=>ae ⟨.inr V,_,V,m,_,(Z),(HS.forget E),V,M⟩
theorem nA{A:Option Addr}{E:Nat}(e:ExpT)(hs:HS (.of H []) F H [] R)(O:in64 e.kind)(U:in64 e.n)(a_:in64 e.op)(Z:SR F (sL A e.kids.length E) e.kids)(hn:ndE e<4611686018427387904):kKt ex 69 [(aG [(iI e.kind),(iI e.n),(tX e.name.b),(iI e.op),(sL A e.kids.length E)])] H fun v H'=> ∃(x:Int) (F':Fz),Fz.le F F'/\HS (.of H []) F' H' [] R/\v=iI x/\x=((dpE e:Nat):Int):=
 depth_c_aux ex (ndE e+1) e hs O U a_ Z hn (a0x _)
theorem count_c_aux: ∀(fuel:Nat) {cp:Option Addr} {cv:Nat} (l:List StmT) (deep:Nat) {F:Fz} {H:Heap} {R:List Fp} (hs:HS (.of H []) F H [] R) (hl:SR F (sL cp l.length cv) l) (hn:deep+ev l<4611686018427387904),ev l<fuel->kKt ex 67 [(sL cp l.length cv),(iI (deep:Int))] H fun v H'=> ∃(n:Int) (w:Int) (d:Int) (F':Fz),Fz.le F F'/\HS (.of H []) F' H' [] R/\v= .tuple ⟨[iI n,iI w,iI d]⟩/\n=((nSs l:Nat):Int)/\w=((wSs l:Nat):Int)/\d=((dSs l deep:Nat):Int):=by
 intro fuel;induction fuel with
 |zero=>intros;omega
 |succ fuel ih=>
 intro cp cv l deep F H R hs hl hn f1;have fb:=kW l;have fd:=n_le l;have fi:=w_le l;have fk:=d_le l deep;refine av Tryz.func67 V V (ai 1 V (wT 2 [] 4 6 [] [(4,(iI 0)),(5,(iI 0)),(6,(iI 0))] V fun _=>wT 3 [] 1 0 [7,8,9] [(7,(iI 0)),(8,(iI 0)),(9,(iI 0))] V fun _=>wT 2 [] 1 0 [10] [(10,(iI 0))] V fun _=>aj (fun(mm:Nat) f H'=> ∃(n:Nat) (w:Nat) (m:Int) (i:Nat) (F':Fz),Fz.le F F'/\HS (Base.of H []) F' H' [] R/\aC f [(0,(sL cp l.length cv)),(1,(iI (deep:Int))),(7,(iI (n:Int))),(8,(iI (w:Int))),(9,(iI m)),(10,(iI (i:Int)))]/\mm=l.length-i/\(nSs l=n+nSs (l.drop i))/\(wSs l=w+wSs (l.drop i))/\((dSs l deep:Int)=max m (dSs (l.drop i) deep:Int))/\(0<=m)/\(i<=l.length)) _ ⟨0,0,0,0,_,fR,hs,⟨V,V,V,V,V,V,trivial⟩,V,(by rw[a0I];omega),(by rw[a0I];omega),(by rw[a0I];omega),M,M⟩ ?_));rintro e4 f4 H4 ⟨n,w,m,i,F4,ar,E,a4,rfl,h1,h2,h3,h0,hi⟩ bn;refine ap _ a4 (fun _=>?_);clear a4;replace hl:=hl.mono ar;refine ai 2 V (wT 1 [] 17 20 [] [(20,(.bool (decide ((i:Int)<(l.length:Int)))))] V fun _=>zd 4 5 (fun c6=>?_) fun c6=>?_)
 ·have qa:=ns_at (l:=l) (i:=i) M;have qs:=ns_s (l.getD i default);have qb:=n_drop (l:=l) (i:=i) M;have qc:=w_drop (l:=l) (i:=i) M;have qd:=d_drop (l:=l) (i:=i) (d:=deep) M;refine wU 2 [] 23 24 [7] [(7,(iI ((n:Int)+1)))] (vi (n:=(n:Int)+1)) V fun _=>wT 3 [] 25 27 [9] [(9,(iI (if(deep:Int)>m then(deep:Int) else m)))] V fun _=>?_
  obtain⟨ez,a5⟩:=Sv.view (SR.sv hl E);obtain⟨b9,ch,ci,co,c0,c3,a8,a9,d4,bt,bw,bF,b0⟩:=StmT.fx (a5 i);refine wrp 1 28 33 [] [(33,(.bool ((l.getD i default).kind==4)))] (Ha_ (Sv.ix (j:=(i:Int)) (SR.sv hl E)) (Hl_ 4 (ql 3 0 (StmT.vw (a5 i)) V V) Hn_)) (by kernel_rfl) V fun _=>hP (fun f H'=> ∃(U:Nat),H'=H4/\aC f [(0,(sL cp l.length cv)),(1,(iI (deep:Int))),(7,(iI ((n:Int)+1))),(8,(iI (U:Int))),(9,(iI (if(deep:Int)>m then(deep:Int) else m))),(10,(iI (i:Int)))]/\(U=w+(if(l.getD i default).kind=4 then 1 else 0))) (fun a1=>?_) ?_
  ·refine zi 0 0 (fun a_=>?_) fun a_=>?_
   ·try simp only[BS]at a_
    refine wU 0 [] 34 35 [8] [(8,(iI ((w:Int)+1)))] (vi (n:=(w:Int)+1)) V fun _=>?_
    exact a1 _ _ ⟨w+1,V,⟨V,V,V,V,V,V,trivial⟩,(by(rw[if_pos M];done))⟩
   try simp only[BS]at a_
   exact a1 _ _ ⟨w,V,⟨V,V,V,V,V,V,trivial⟩,(by(rw[if_neg M];omega))⟩
  skip;rintro e2 H4 ⟨U,rfl,ax,e3⟩;refine ap _ ax (fun _=>?_);clear ax;refine ai 2 V (ab ?_);obtain⟨Z,aA⟩:=Sv.view (SR.sv hl E);obtain⟨c4,c5,c7,c8,c9,dk,ba,bb,d5,b1,b2,a2,b3⟩:=StmT.fx (aA i);refine bV 7 0 37 43 [] [(41,(sL (cA (Z i) 15) (l.getD i default).thn.length (cK (Z i) 15))),(43,(iI ((deep:Int)+1)))] (Ha_ (Sv.ix (j:=(i:Int)) (SR.sv hl E)) (Hl_ 4 (ql 51 15 (StmT.vw (aA i)) V V) (Ha_ (vi (n:=(deep:Int)+1)) Hn_))) (by kernel_rfl) V fun _=>zc (ih (l.getD i default).thn (deep+1) (HS.call E) a2 M M) ?_
  rintro _ em ⟨e5,e7,e0,d8,an,A,rfl,rfl,rfl,rfl⟩;replace A:=HS.back E V A;replace hl:=hl.mono an;refine bV 7 8 45 47 [11,12,13,36] [(11,(iI ((nSs (l.getD i default).thn:Nat):Int))),(12,(iI ((wSs (l.getD i default).thn:Nat):Int))),(13,(iI ((dSs (l.getD i default).thn (deep+1):Nat):Int)))] Hn_ (by kernel_rfl) V fun _=>ag 2 V (ab ?_)
  obtain⟨al,a0⟩:=Sv.view (SR.sv hl A);obtain⟨dn,ds,dt,d1,d2,d3,bf,bl,d6,b4,b6,b8,a3⟩:=StmT.fx (a0 i);refine bV 7 0 49 55 [] [(53,(sL (cA (al i) 16) (l.getD i default).els.length (cK (al i) 16))),(55,(iI ((deep:Int)+1)))] (Ha_ (Sv.ix (j:=(i:Int)) (SR.sv hl A)) (Hl_ 4 (ql 51 16 (StmT.vw (a0 i)) V V) (Ha_ (vi (n:=(deep:Int)+1)) Hn_))) (by kernel_rfl) V fun _=>zc (ih (l.getD i default).els (deep+1) (HS.call A) a3 M M) ?_
  rintro _ et ⟨e6,e8,e1,ee,a6,O,rfl,rfl,rfl,rfl⟩;replace O:=HS.back A V O;refine bV 7 8 57 59 [14,15,16,48] [(14,(iI ((nSs (l.getD i default).els:Nat):Int))),(15,(iI ((wSs (l.getD i default).els:Nat):Int))),(16,(iI ((dSs (l.getD i default).els (deep+1):Nat):Int)))] Hn_ (by kernel_rfl) V fun _=>ag 1 V (wR 2 [] 60 74 [7,8,9] [(7,(iI ((((n:Int)+1)+((nSs (l.getD i default).thn:Nat):Int))+((nSs (l.getD i default).els:Nat):Int)))),(8,(iI (((U:Int)+((wSs (l.getD i default).thn:Nat):Int))+((wSs (l.getD i default).els:Nat):Int)))),(9,(iI (if(if((dSs (l.getD i default).els (deep+1):Nat):Int)>((dSs (l.getD i default).thn (deep+1):Nat):Int) then((dSs (l.getD i default).els (deep+1):Nat):Int) else((dSs (l.getD i default).thn (deep+1):Nat):Int))>(if(deep:Int)>m then(deep:Int) else m) then(if((dSs (l.getD i default).els (deep+1):Nat):Int)>((dSs (l.getD i default).thn (deep+1):Nat):Int) then((dSs (l.getD i default).els (deep+1):Nat):Int) else((dSs (l.getD i default).thn (deep+1):Nat):Int)) else(if(deep:Int)>m then(deep:Int) else m))))] (vA (vi (n:=((n:Int)+1)+((nSs (l.getD i default).thn:Nat):Int))) (vA (vi (n:=(((n:Int)+1)+((nSs (l.getD i default).thn:Nat):Int))+((nSs (l.getD i default).els:Nat):Int))) (vA (vi (n:=(U:Int)+((wSs (l.getD i default).thn:Nat):Int))) (vA (vi (n:=((U:Int)+((wSs (l.getD i default).thn:Nat):Int))+((wSs (l.getD i default).els:Nat):Int))) trivial)))) V fun _=>wU 1 [] 21 22 [10] [(10,(iI ((i:Int)+1)))] (vi (n:=(i:Int)+1)) V fun _=>?_)
  refine bn _ _ _ ?_ ⟨((n+1)+(nSs (l.getD i default).thn))+(nSs (l.getD i default).els),(U+(wSs (l.getD i default).thn))+(wSs (l.getD i default).els),(if(if((dSs (l.getD i default).els (deep+1):Nat):Int)>((dSs (l.getD i default).thn (deep+1):Nat):Int) then((dSs (l.getD i default).els (deep+1):Nat):Int) else((dSs (l.getD i default).thn (deep+1):Nat):Int))>(if(deep:Int)>m then(deep:Int) else m) then(if((dSs (l.getD i default).els (deep+1):Nat):Int)>((dSs (l.getD i default).thn (deep+1):Nat):Int) then((dSs (l.getD i default).els (deep+1):Nat):Int) else((dSs (l.getD i default).thn (deep+1):Nat):Int)) else(if(deep:Int)>m then(deep:Int) else m)),i+1,_,(fT (fT (ar) an) a6),O,⟨V,V,V,V,V,V,trivial⟩,V,M,M,M,M,M⟩;omega
 have qb:=nwd_end (l:=l) (i:=i) (d:=deep) M;refine wT 1 [] 4 6 [75,76,77] [(4,(iI (n:Int))),(5,(iI (w:Int))),(6,(iI m))] V fun _=>ae ⟨.inr V,_,V,(n:Int),(w:Int),m,_,(ar),(HS.forget E),V,M,M,M⟩
theorem count_c{A:Option Addr}{E:Nat}(l:List StmT)(deep:Nat)(hs:HS (.of H []) F H [] R)(O:SR F (sL A l.length E) l)(U:deep+ev l<4611686018427387904):kKt ex 67 [(sL A l.length E),(iI (deep:Int))] H fun v H'=> ∃(n:Int) (w:Int) (d:Int) (F':Fz),Fz.le F F'/\HS (.of H []) F' H' [] R/\v= .tuple ⟨[iI n,iI w,iI d]⟩/\n=((nSs l:Nat):Int)/\w=((wSs l:Nat):Int)/\d=((dSs l deep:Nat):Int):=
 count_c_aux ex (ev l+1) l deep hs O U (a0x _)
theorem mR: ∀(fuel:Nat) {a8:Option Addr} {b4:Nat} (l:List StmT) {F:Fz} {H:Heap} {R:List Fp} (hs:HS (.of H []) F H [] R) (hl:SR F (sL a8 l.length b4) l) (hn:ev l<4611686018427387904),ev l<fuel->kKt ex 68 [(sL a8 l.length b4)] H fun v H'=> ∃(x:Bool) (F':Fz),Fz.le F F'/\HS (.of H []) F' H' [] R/\v= .bool x/\x=cV l:=by
 intro fuel;induction fuel with
 |zero=>intros;omega
 |succ fuel ih=>
 intro a8 b4 l F H R hs hl hn g4;have f7:=kW l;refine av Tryz.func68 V V (ai 1 V (wT 3 [] 2 2 [] [(2,(.bool false))] V fun _=>wT 2 [] 1 0 [3] [(3,(iI 0))] V fun _=>aj (fun(mm:Nat) f H'=> ∃(i:Nat) (F':Fz),Fz.le F F'/\HS (Base.of H []) F' H' [] R/\aC f [(0,(sL a8 l.length b4)),(3,(iI (i:Int)))]/\mm=l.length-i/\(cV l=cV (l.drop i))/\(i<=l.length)) _ ⟨0,_,fR,hs,⟨V,V,trivial⟩,V,k_,M⟩ ?_));rintro f0 f3 H3 ⟨i,F3,a7,bt,b8,rfl,h1,hi⟩ c8;refine ap _ b8 (fun _=>?_);clear b8;replace hl:=hl.mono a7;refine ai 2 V (wT 1 [] 6 9 [] [(9,(.bool (decide ((i:Int)<(l.length:Int)))))] V fun _=>zd 4 5 (fun c5=>?_) fun c5=>?_)
 ·have qa:=ns_at (l:=l) (i:=i) M;have qs:=ns_s (l.getD i default);have hb:=iQ (l.getD i default).args;refine ab ?_;obtain⟨A,ch⟩:=Sv.view (SR.sv hl bt);obtain⟨d3,d4,d5,d6,d7,d8,ds,dt,c4,a5,Z,ar,O⟩:=StmT.fx (ch i);refine bV 4 0 12 15 [] [(15,(aG [(iI (l.getD i default).kind),(tX (l.getD i default).name.b),(tX (l.getD i default).to.b),(iI (l.getD i default).n),(iI (l.getD i default).at_.kind),(iI (l.getD i default).at_.n),(tX (l.getD i default).at_.name.b),(iI (l.getD i default).at_.op),(sL (cA (A i) 8) (l.getD i default).at_.kids.length (cK (A i) 8)),(iI (l.getD i default).val.kind),(iI (l.getD i default).val.n),(tX (l.getD i default).val.name.b),(iI (l.getD i default).val.op),(sL (cA (A i) 13) (l.getD i default).val.kids.length (cK (A i) 13)),(sL (cA (A i) 14) (l.getD i default).args.length (cK (A i) 14)),(sL (cA (A i) 15) (l.getD i default).thn.length (cK (A i) 15)),(sL (cA (A i) 16) (l.getD i default).els.length (cK (A i) 16))]))] (Ha_ (Sv.ix (j:=(i:Int)) (SR.sv hl bt)) (Hl_ 3 (qn 63 0 17 (StmT.vw (ch i)) V V V V) Hn_)) (by kernel_rfl) V fun _=>zn bt V fun b9 e4 c0=>sgo 1 5 1 0 [] [] (Hr_ 5 0 Hn_) c0 V V fun ee e5 ba=>ag 3 V (hO 16 35 [] [(35,(.bool ((((decide ((20:Int)<((dpE (l.getD i default).at_:Nat):Int)))||(decide ((20:Int)<((dpE (l.getD i default).val:Nat):Int))))||cV (l.getD i default).thn)||cV (l.getD i default).els)))] (fun H'=> ∃F',Fz.le F3 F'/\HS (Base.of H []) F' H' [(fP b9 [(iI (l.getD i default).kind),(tX (l.getD i default).name.b),(tX (l.getD i default).to.b),(iI (l.getD i default).n),(iI (l.getD i default).at_.kind),(iI (l.getD i default).at_.n),(tX (l.getD i default).at_.name.b),(iI (l.getD i default).at_.op),(sL (cA (A i) 8) (l.getD i default).at_.kids.length (cK (A i) 8)),(iI (l.getD i default).val.kind),(iI (l.getD i default).val.n),(tX (l.getD i default).val.name.b),(iI (l.getD i default).val.op),(sL (cA (A i) 13) (l.getD i default).val.kids.length (cK (A i) 13)),(sL (cA (A i) 14) (l.getD i default).args.length (cK (A i) 14)),(sL (cA (A i) 15) (l.getD i default).thn.length (cK (A i) 15)),(sL (cA (A i) 16) (l.getD i default).els.length (cK (A i) 16))])] R) ?_ ?_)
  ·refine ab (ao (v:=(pT b9 4)) (eP V V) V V (ao (v:=(aG [(iI (l.getD i default).at_.kind),(iI (l.getD i default).at_.n),(tX (l.getD i default).at_.name.b),(iI (l.getD i default).at_.op),(sL (cA (A i) 8) (l.getD i default).at_.kids.length (cK (A i) 8))])) (en (i:=4) V V V (h_ ba V) V V V) V V (zc (nA ex (l.getD i default).at_ (HS.call ba) M M M c4 M) ?_)));rintro _ e7 ⟨f1,et,al,ax,rfl,rfl⟩;replace ax:=HS.back ba V ax;replace a5:=a5.mono al;replace ar:=ar.mono al;replace O:=O.mono al;refine ao (v:=(.bool (decide ((20:Int)<((dpE (l.getD i default).at_:Nat):Int))))) (ew V V V V) V V (zm (.bool (decide ((20:Int)<((dpE (l.getD i default).at_:Nat):Int)))) (eI (v:=(decide ((20:Int)<((dpE (l.getD i default).at_:Nat):Int)))) V V (fun E=>?_) (fun E=>?_)))
   ·have bf:=E;try simp only[BS]at bf
    refine ao (v:=(pT b9 9)) (eP V V) V V (aV V E (ao (v:=(aG [(iI (l.getD i default).val.kind),(iI (l.getD i default).val.n),(tX (l.getD i default).val.name.b),(iI (l.getD i default).val.op),(sL (cA (A i) 13) (l.getD i default).val.kids.length (cK (A i) 13))])) (en (i:=9) V V V (h_ ax V) V V V) V V (aV V E (zc (nA ex (l.getD i default).val (HS.call ax) M M M a5 M) ?_))));rintro _ e8 ⟨f2,ez,a1,aA,rfl,rfl⟩;replace aA:=HS.back ax V aA;replace ar:=ar.mono a1;replace O:=O.mono a1;refine aV V E (ao (v:=(.bool (decide ((20:Int)<((dpE (l.getD i default).val:Nat):Int))))) (ew V V V V) V V (ao (v:=(.bool (decide ((20:Int)<((dpE (l.getD i default).val:Nat):Int))))) (bz V E V) V V (zm (.bool (decide ((20:Int)<((dpE (l.getD i default).val:Nat):Int)))) (eI (v:=(decide ((20:Int)<((dpE (l.getD i default).val:Nat):Int)))) V V (fun U=>?_) (fun U=>?_)))))
    ·have bl:=U;try simp only[BS]at bl
     refine ao (v:=(pT b9 15)) (eP V V) V V (aV V U (ao (v:=(sL (cA (A i) 15) (l.getD i default).thn.length (cK (A i) 15))) (bL (i:=15) V V (h_ aA V) V V) V V (aV V U (zc (ih (l.getD i default).thn (HS.call aA) ar M M) ?_))));rintro _ fb ⟨f4,e0,a9,a0,rfl,rfl⟩;replace a0:=HS.back aA V a0;replace O:=O.mono a9;refine ao (v:=(.bool (cV (l.getD i default).thn))) (bz V U V) V V (zm (.bool (cV (l.getD i default).thn)) (eI (v:=(cV (l.getD i default).thn)) V V (fun a_=>?_) (fun a_=>?_)))
     ·have bn:=a_;try simp only[BS]at bn
      refine ao (v:=(pT b9 16)) (eP V V) V V (aV V a_ (ao (v:=(sL (cA (A i) 16) (l.getD i default).els.length (cK (A i) 16))) (bL (i:=16) V V (h_ a0 V) V V) V V (aV V a_ (zc (ih (l.getD i default).els (HS.call a0) O M M) ?_))));rintro _ fd ⟨f5,e1,co,bb,rfl,rfl⟩;replace bb:=HS.back a0 V bb;refine ao (v:=(.bool (cV (l.getD i default).els))) (bz V a_ V) V V (aQ ?_);exact aD ⟨V,⟨_,(fT (fT (fT (fT fR al) a1) a9) co),HS.sub bb (List.Sublist.refl _)⟩,(by repeat' first|exact Lr|refine Lu V ?_),(agC (congrArg Value.bool (show cV (l.getD i default).els=((((decide ((20:Int)<((dpE (l.getD i default).at_:Nat):Int)))||(decide ((20:Int)<((dpE (l.getD i default).val:Nat):Int))))||cV (l.getD i default).thn)||cV (l.getD i default).els) by simp only[↓E,↓U,↓a_,BT])) agN)⟩
     have bn:=a_;try simp only[BS]at bn
     refine aw V a_ V (aw V a_ V (ao (v:=(.bool true)) (aI V a_ V) V V (aQ ?_)));exact aD ⟨V,⟨_,(fT (fT (fT fR al) a1) a9),HS.sub a0 (List.Sublist.refl _)⟩,(by repeat' first|exact Lr|refine Lu V ?_),(agC (congrArg Value.bool (show true=((((decide ((20:Int)<((dpE (l.getD i default).at_:Nat):Int)))||(decide ((20:Int)<((dpE (l.getD i default).val:Nat):Int))))||cV (l.getD i default).thn)||cV (l.getD i default).els) by simp only[↓E,↓U,↓a_,BT])) agN)⟩
    have bl:=U;try simp only[BS]at bl
    refine aw V U V (aw V U V (ao (v:=(.bool true)) (aI V U V) V V (zm (.bool true) (aw V V V (aw V V V ?_)))));refine aw V V V (ao (v:=(.bool true)) (aI V V V) V V (aQ ?_));exact aD ⟨V,⟨_,(fT (fT fR al) a1),HS.sub aA (List.Sublist.refl _)⟩,(by repeat' first|exact Lr|refine Lu V ?_),(agC (congrArg Value.bool (show true=((((decide ((20:Int)<((dpE (l.getD i default).at_:Nat):Int)))||(decide ((20:Int)<((dpE (l.getD i default).val:Nat):Int))))||cV (l.getD i default).thn)||cV (l.getD i default).els) by simp only[↓E,↓U,BT])) agN)⟩
   have bf:=E;try simp only[BS]at bf
   refine aw V E V (aw V E V (aw V E V (ao (v:=(.bool true)) (aI V E V) V V (zm (.bool true) (aw V V V ?_)))));refine aw V V V (aw V V V (ao (v:=(.bool true)) (aI V V V) V V (zm (.bool true) (aw V V V (aw V V V ?_)))));refine aw V V V (ao (v:=(.bool true)) (aI V V V) V V (aQ ?_));exact aD ⟨V,⟨_,(fT fR al),HS.sub ax (List.Sublist.refl _)⟩,(by repeat' first|exact Lr|refine Lu V ?_),(agC (congrArg Value.bool (show true=((((decide ((20:Int)<((dpE (l.getD i default).at_:Nat):Int)))||(decide ((20:Int)<((dpE (l.getD i default).val:Nat):Int))))||cV (l.getD i default).thn)||cV (l.getD i default).els) by simp only[↓E,BT])) agN)⟩
  skip;rintro fu e6 ⟨c6,a2,b2⟩;replace Z:=Z.mono a2;refine ai 1 V (zi 1 2 (fun a6=>?_) fun a6=>?_)
  ·try simp only[BS]at a6
   have cp:=td_y (l:=l) (i:=i) M (by simpa only[aT] using a6);refine wT 1 [] 2 2 [] [(2,(.bool true))] V fun _=>ae ⟨.inr V,_,V,true,_,(fT (a7) a2),(HS.forget b2),V,(h1.trans cp).symm⟩
  try simp only[BS]at a6
  have d1:=td_n (l:=l) (i:=i) M (by simpa only[aT] using a6);refine wT 2 [] 1 0 [5] [(5,(iI 0))] V fun _=>aj (fun(mm:Nat) f H'=> ∃(k:Nat) (F':Fz),Fz.le c6 F'/\HS (Base.of H []) F' H' [(fP b9 [(iI (l.getD i default).kind),(tX (l.getD i default).name.b),(tX (l.getD i default).to.b),(iI (l.getD i default).n),(iI (l.getD i default).at_.kind),(iI (l.getD i default).at_.n),(tX (l.getD i default).at_.name.b),(iI (l.getD i default).at_.op),(sL (cA (A i) 8) (l.getD i default).at_.kids.length (cK (A i) 8)),(iI (l.getD i default).val.kind),(iI (l.getD i default).val.n),(tX (l.getD i default).val.name.b),(iI (l.getD i default).val.op),(sL (cA (A i) 13) (l.getD i default).val.kids.length (cK (A i) 13)),(sL (cA (A i) 14) (l.getD i default).args.length (cK (A i) 14)),(sL (cA (A i) 15) (l.getD i default).thn.length (cK (A i) 15)),(sL (cA (A i) 16) (l.getD i default).els.length (cK (A i) 16))])] R/\aC f [(0,(sL a8 l.length b4)),(3,(iI (i:Int))),(4,(pT b9 0)),(5,(iI (k:Int)))]/\mm=(l.getD i default).args.length-k/\(cV (l.drop i)=anD ((l.getD i default).args.drop k) (cV (l.drop (i+1))))/\(k<=(l.getD i default).args.length)) _ ⟨0,_,fR,b2,⟨V,V,V,V,trivial⟩,V,(d1),M⟩ ?_
  rintro em fq fi ⟨k,e2,a3,an,b1,rfl,g1,hk⟩ c3;refine ap _ b1 (fun _=>?_);clear b1;replace Z:=Z.mono a3;refine ai 2 V (bH 1 36 40 [] [(40,(.bool (decide ((k:Int)<((l.getD i default).args.length:Int)))))] (Hr_ 2 0 Hn_) an V V fun _=>zd 4 5 (fun c7=>?_) fun c7=>?_)
  ·have qk:=lN (l:=(l.getD i default).args) (i:=k) M;refine ab ?_;obtain⟨bF,b3⟩:=Sv.view (SR.sv Z an);obtain⟨c9,dk,dn,b6⟩:=ExpT.fx (b3 k);refine bW 5 0 43 47 [] [(47,(aG [(iI ((l.getD i default).args.getD k default).kind),(iI ((l.getD i default).args.getD k default).n),(tX ((l.getD i default).args.getD k default).name.b),(iI ((l.getD i default).args.getD k default).op),(sL (cA (bF k) 4) ((l.getD i default).args.getD k default).kids.length (cK (bF k) 4))]))] (Hr_ 1 0 (Ha_ (Sv.ix (j:=(k:Int)) (SR.sv Z an)) (Hl_ 4 (qn 46 0 5 (ExpT.vw (b3 k)) V V V V) Hn_))) an V V fun _=>zc (nA ex ((l.getD i default).args.getD k default) (HS.call an) M M M b6 M) ?_
   rintro _ fk ⟨f6,e3,b0,a4,rfl,rfl⟩;replace a4:=HS.back an V a4;refine bV 1 6 49 49 [] [(49,(.bool (decide ((20:Int)<((dpE ((l.getD i default).args.getD k default):Nat):Int)))))] Hn_ (by kernel_rfl) V fun _=>ag 1 V (zd 1 2 (fun bw=>?_) fun bw=>?_)
   ·have cp:=an_y (l:=(l.getD i default).args) (i:=k) (b:=cV (l.drop (i+1))) M (by simpa only[aT] using bw);refine wT 1 [] 2 2 [] [(2,(.bool true))] V fun _=>ae ⟨.inr V,_,V,true,_,(fT (fT (fT (a7) a2) a3) b0),(HS.forget a4),V,(h1.trans (g1.trans cp)).symm⟩
   have d1:=an_n (l:=(l.getD i default).args) (i:=k) (b:=cV (l.drop (i+1))) M (by simpa only[aT] using bw);refine wU 1 [] 41 42 [5] [(5,(iI ((k:Int)+1)))] (vi (n:=(k:Int)+1)) V fun _=>?_
   refine c3 _ _ _ ?_ ⟨k+1,_,(fT (a3) b0),a4,⟨V,V,V,V,trivial⟩,V,(g1.trans d1),M⟩;omega
  refine wU 1 [] 10 11 [3] [(3,(iI ((i:Int)+1)))] (vi (n:=(i:Int)+1)) V fun _=>?_
  refine c8 _ _ _ ?_ ⟨i+1,_,(fT (fT (a7) a2) a3),(HS.sub an (a05 _ _)),⟨V,V,trivial⟩,V,(h1.trans (g1.trans (an_e M))),M⟩;omega
 refine wT 1 [] 2 2 [] [(2,(.bool false))] V fun _=>ae ⟨.inr V,_,V,false,_,(a7),(HS.forget bt),V,(h1.trans (td_end M)).symm⟩
theorem tooDeep_c{A:Option Addr}{E:Nat}(l:List StmT)(hs:HS (.of H []) F H [] R)(O:SR F (sL A l.length E) l)(U:ev l<4611686018427387904):kKt ex 68 [(sL A l.length E)] H fun v H'=> ∃(x:Bool) (F':Fz),Fz.le F F'/\HS (.of H []) F' H' [] R/\v= .bool x/\x=cV l:=
 mR ex (ev l+1) l hs O U (a0x _)
set_option maxHeartbeats 800000 in
theorem exceeds_c{bt:Option Addr}{b4:Nat}{bn:Option Addr}{b3:Nat}(p:PrgT)(hs:HS (.of H []) F H [] R)(a4:SR F (sL bn p.arrs.length b3) p.arrs)(a0:SR F (sL bt p.funs.length b4) p.funs)(hn:SmP p):kKt ex 32 [(aG [(sL bn p.arrs.length b3),(sL bt p.funs.length b4)])] H fun v H'=> ∃(x:Bool) (F':Fz),Fz.le F F'/\HS (.of H []) F' H' [] R/\v= .bool x/\x=exL p:=by
 obtain⟨ht,hu,hl⟩:=hn;refine av Tryz.func32 V V (ai 1 V (ab (bc (aX hs V V) V V ?_)));rintro _ H2 _ ⟨b1,rfl,c0,_⟩;refine za (.bool false) (ag 3 V (bH 1 9 18 [] [(18,(.bool ((decide ((4:Int)<(p.arrs.length:Int)))||(decide ((8:Int)<(p.funs.length:Int))))))] (Hr_ 1 0 (dK 6 (fun _=>(ql 23 1 (h_ c0 V) V V)) Hn_)) c0 V V fun _=>zi 1 3 (fun c4=>?_) fun c4=>?_))
 ·try simp only[BS]at c4
  have bf:=c4;refine wT 1 [] 2 2 [] [(2,(.bool true))] V fun _=>ae ⟨.inr V,_,V,true,_,fR,(HS.forget c0),V,(ex_1 bf).symm⟩
 try simp only[BS]at c4
 have bf:=c4;let dk:Fp:=(fP b1 [(sL bn p.arrs.length b3),(sL bt p.funs.length b4)])
 refine wT 2 [] 1 0 [3] [(3,(iI 0))] V fun _=>aj (fun(mm:Nat) f H'=> ∃(i:Nat) (F':Fz),Fz.le F F'/\HS (Base.of H []) F' H' [dk] R/\aC f [(1,(pT b1 0)),(3,(iI (i:Int)))]/\mm=p.arrs.length-i/\(p.arrs.any lnB=(p.arrs.drop i).any lnB)/\(i<=p.arrs.length)) _ ⟨0,_,fR,c0,⟨V,V,trivial⟩,V,k_,M⟩ ?_
 rintro f3 f7 H7 ⟨i,F7,a5,ar,dn,rfl,h1,hi⟩ d7;refine ap _ dn (fun _=>?_);clear dn;replace a4:=a4.mono a5;replace a0:=a0.mono a5;refine ai 2 V (bH 1 19 23 [] [(23,(.bool (decide ((i:Int)<(p.arrs.length:Int)))))] (Hr_ 2 0 Hn_) ar V V fun _=>zd 4 6 (fun c9=>?_) fun c9=>?_)
 ·obtain⟨e1,b2⟩:=Sv.view (SR.sv a4 ar);have d8:=ArrT.fx (b2 i);refine bH 1 26 41 [] [(41,(.bool ((decide ((p.arrs.getD i default).len<1))||(decide ((16:Int)<(p.arrs.getD i default).len)))))] (Hr_ 1 0 (Ha_ (Sv.ix (j:=(i:Int)) (SR.sv a4 ar)) (Hl_ 5 (ql 3 1 (ArrT.vw (b2 i)) V V) (dK 9 (fun _=>(ql 22 0 (h_ ar V) V V)) (Ha_ (fun(g1:(decide ((p.arrs.getD i default).len<1))=false)=>(Sv.ix (j:=(i:Int)) (SR.sv a4 ar) (by(try simp only[BS]at g1);(first|omega|(dsimp only;omega))) (by(try simp only[BS]at g1);(first|omega|(dsimp only;omega))))) (dK 13 (fun g1=>(ql 3 1 (ArrT.vw (b2 i) (by(try simp only[BS]at g1);(first|omega|(dsimp only;omega)))) V V)) Hn_)))))) ar V V fun _=>zi 1 2 (fun ba=>?_) fun ba=>?_
  ·try simp only[BS]at ba
   have c3:=ar_y (l:=p.arrs) (i:=i) M ba;refine wT 1 [] 2 2 [] [(2,(.bool true))] V fun _=>ae ⟨.inr V,_,V,true,_,(a5),(HS.forget ar),V,(ex_2 bf h1 c3).symm⟩
  try simp only[BS]at ba
  have go:=ar_n (l:=p.arrs) (i:=i) M ba;refine wU 1 [] 24 25 [3] [(3,(iI ((i:Int)+1)))] (vi (n:=(i:Int)+1)) V fun _=>?_
  refine d7 _ _ _ ?_ ⟨i+1,_,(a5),ar,⟨V,V,trivial⟩,V,(h1.trans go),M⟩;omega
 have h2:=h1.trans (any_end M);refine wT 2 [] 1 0 [4] [(4,(iI 0))] V fun _=>aj (fun(mm:Nat) f H'=> ∃(i:Nat) (F':Fz),Fz.le F7 F'/\HS (Base.of H []) F' H' [dk] R/\aC f [(1,(pT b1 0)),(4,(iI (i:Int)))]/\mm=p.funs.length-i/\(dpG p.funs=dpG (p.funs.drop i))/\(i<=p.funs.length)) _ ⟨0,_,fR,ar,⟨V,V,trivial⟩,V,k_,M⟩ ?_
 rintro e3 f1 e8 ⟨i,e4,a6,a1,c6,rfl,g1,hk⟩ d3;refine ap _ c6 (fun _=>?_);clear c6;replace a0:=a0.mono a6;refine ai 2 V (bH 1 42 46 [] [(46,(.bool (decide ((i:Int)<(p.funs.length:Int)))))] (Hr_ 2 0 Hn_) a1 V V fun _=>zd 4 5 (fun d5=>?_) fun d5=>?_)
 ·have hr:=hl (p.funs.getD i default) (dO M);refine ab ?_;obtain⟨A,c8⟩:=Sv.view (SR.sv a0 a1);obtain⟨ee,em,et,a7,a8,a3,ax⟩:=FunT.fx (c8 i);refine bW 5 0 49 53 [] [(53,(aG [(tX (p.funs.getD i default).name.b),(sL (cA (A i) 1) (p.funs.getD i default).pars.length (cK (A i) 1)),(sL (cA (A i) 2) (p.funs.getD i default).locs.length (cK (A i) 2)),(sL (cA (A i) 3) (p.funs.getD i default).body.length (cK (A i) 3)),(iI (p.funs.getD i default).val.kind),(iI (p.funs.getD i default).val.n),(tX (p.funs.getD i default).val.name.b),(iI (p.funs.getD i default).val.op),(sL (cA (A i) 8) (p.funs.getD i default).val.kids.length (cK (A i) 8))]))] (Hr_ 1 0 (Ha_ (Sv.ix (j:=(i:Int)) (SR.sv a0 a1)) (Hl_ 4 (qn 53 0 9 (FunT.vw (c8 i)) V V V V) Hn_))) a1 V V fun _=>zn a1 V fun a9 fb d2=>sgo 1 6 1 0 [] [] (Hr_ 6 1 Hn_) d2 V V fun e2 fd bF=>ag 2 V (ab (bW 2 0 55 56 [] [(56,(sL (cA (A i) 3) (p.funs.getD i default).body.length (cK (A i) 3)))] (Hr_ 1 1 Hn_) bF V V fun _=>?_))
  refine zc (count_c ex (p.funs.getD i default).body 0 (HS.call bF) a3 M) ?_;rintro _ fi ⟨f4,f5,f0,d4,aA,E,rfl,rfl,rfl,rfl⟩;replace E:=HS.back bF V E;replace a7:=a7.mono aA;replace a8:=a8.mono aA;replace a3:=a3.mono aA;replace ax:=ax.mono aA;refine bV 7 3 58 60 [6,7,8,54] [(6,(iI ((nSs (p.funs.getD i default).body:Nat):Int))),(7,(iI ((wSs (p.funs.getD i default).body:Nat):Int))),(8,(iI ((dSs (p.funs.getD i default).body 0:Nat):Int)))] Hn_ (by kernel_rfl) V fun _=>ag 2 V (hO 61 93 [] [(93,(.bool (((((((decide ((6:Int)<((p.funs.getD i default).pars.length:Int)))||(decide ((8:Int)<((p.funs.getD i default).locs.length:Int))))||(decide ((200:Int)<((nSs (p.funs.getD i default).body:Nat):Int))))||(decide ((16:Int)<((wSs (p.funs.getD i default).body:Nat):Int))))||(decide ((20:Int)<((dSs (p.funs.getD i default).body 0:Nat):Int))))||cV (p.funs.getD i default).body)||(decide ((20:Int)<((dpE (p.funs.getD i default).val:Nat):Int))))))] (fun H'=> ∃F',Fz.le d4 F'/\HS (Base.of H []) F' H' [dk,(fP a9 [(tX (p.funs.getD i default).name.b),(sL (cA (A i) 1) (p.funs.getD i default).pars.length (cK (A i) 1)),(sL (cA (A i) 2) (p.funs.getD i default).locs.length (cK (A i) 2)),(sL (cA (A i) 3) (p.funs.getD i default).body.length (cK (A i) 3)),(iI (p.funs.getD i default).val.kind),(iI (p.funs.getD i default).val.n),(tX (p.funs.getD i default).val.name.b),(iI (p.funs.getD i default).val.op),(sL (cA (A i) 8) (p.funs.getD i default).val.kids.length (cK (A i) 8))])] R) ?_ ?_)
  ·refine ab (ao (v:=(pT a9 1)) (eP V V) V V (ao (v:=(sL (cA (A i) 1) (p.funs.getD i default).pars.length (cK (A i) 1))) (bL (i:=1) V V (i_ E V) V V) V V (ao (v:=(iI ((p.funs.getD i default).pars.length:Int))) (jC (α:=Str) V V (SR.sv a7 E)) V V (ao (v:=(.bool (decide ((6:Int)<((p.funs.getD i default).pars.length:Int))))) (ew V V V V) V V (zm (.bool (decide ((6:Int)<((p.funs.getD i default).pars.length:Int)))) ?_)))));refine eI (v:=(decide ((6:Int)<((p.funs.getD i default).pars.length:Int)))) V V (fun O=>?_) (fun O=>?_)
   ·have b6:=O;try simp only[BS]at b6
    refine ao (v:=(pT a9 2)) (eP V V) V V (aV V O (ao (v:=(sL (cA (A i) 2) (p.funs.getD i default).locs.length (cK (A i) 2))) (bL (i:=2) V V (i_ E V) V V) V V (aV V O (ao (v:=(iI ((p.funs.getD i default).locs.length:Int))) (jC (α:=Str) V V (SR.sv a8 E)) V V (aV V O ?_)))));refine ao (v:=(.bool (decide ((8:Int)<((p.funs.getD i default).locs.length:Int))))) (ew V V V V) V V (ao (v:=(.bool (decide ((8:Int)<((p.funs.getD i default).locs.length:Int))))) (bz V O V) V V (zm (.bool (decide ((8:Int)<((p.funs.getD i default).locs.length:Int)))) (eI (v:=(decide ((8:Int)<((p.funs.getD i default).locs.length:Int)))) V V (fun U=>?_) (fun U=>?_))))
    ·have b8:=U;try simp only[BS]at b8
     refine zm (iI ((nSs (p.funs.getD i default).body:Nat):Int)) (aV V U (ao (v:=(.bool (decide ((200:Int)<((nSs (p.funs.getD i default).body:Nat):Int))))) (ew V V V V) V V (ao (v:=(.bool (decide ((200:Int)<((nSs (p.funs.getD i default).body:Nat):Int))))) (bz V U V) V V (zm (.bool (decide ((200:Int)<((nSs (p.funs.getD i default).body:Nat):Int)))) (eI (v:=(decide ((200:Int)<((nSs (p.funs.getD i default).body:Nat):Int)))) V V (fun Z=>?_) (fun Z=>?_))))))
     ·have b9:=Z;try simp only[BS]at b9
      refine zm (iI ((wSs (p.funs.getD i default).body:Nat):Int)) (aV V Z (ao (v:=(.bool (decide ((16:Int)<((wSs (p.funs.getD i default).body:Nat):Int))))) (ew V V V V) V V (ao (v:=(.bool (decide ((16:Int)<((wSs (p.funs.getD i default).body:Nat):Int))))) (bz V Z V) V V (zm (.bool (decide ((16:Int)<((wSs (p.funs.getD i default).body:Nat):Int)))) (eI (v:=(decide ((16:Int)<((wSs (p.funs.getD i default).body:Nat):Int)))) V V (fun an=>?_) (fun an=>?_))))))
      ·have ch:=an;try simp only[BS]at ch
       refine zm (iI ((dSs (p.funs.getD i default).body 0:Nat):Int)) (aV V an (ao (v:=(.bool (decide ((20:Int)<((dSs (p.funs.getD i default).body 0:Nat):Int))))) (ew V V V V) V V (ao (v:=(.bool (decide ((20:Int)<((dSs (p.funs.getD i default).body 0:Nat):Int))))) (bz V an V) V V (zm (.bool (decide ((20:Int)<((dSs (p.funs.getD i default).body 0:Nat):Int)))) (eI (v:=(decide ((20:Int)<((dSs (p.funs.getD i default).body 0:Nat):Int)))) V V (fun al=>?_) (fun al=>?_))))))
       ·have ci:=al;try simp only[BS]at ci
        refine ao (v:=(pT a9 3)) (eP V V) V V (aV V al (ao (v:=(sL (cA (A i) 3) (p.funs.getD i default).body.length (cK (A i) 3))) (bL (i:=3) V V (i_ E V) V V) V V (aV V al (zc (tooDeep_c ex (p.funs.getD i default).body (HS.call E) a3 M) ?_))));rintro _ fq ⟨f6,e6,bw,a2,rfl,rfl⟩;replace a2:=HS.back E V a2;replace ax:=ax.mono bw;refine ao (v:=(.bool (cV (p.funs.getD i default).body))) (bz V al V) V V (zm (.bool (cV (p.funs.getD i default).body)) (eI (v:=(cV (p.funs.getD i default).body)) V V (fun a_=>?_) (fun a_=>?_)))
        ·have co:=a_;try simp only[BS]at co
         refine ao (v:=(pT a9 4)) (eP V V) V V (aV V a_ (ao (v:=(aG [(iI (p.funs.getD i default).val.kind),(iI (p.funs.getD i default).val.n),(tX (p.funs.getD i default).val.name.b),(iI (p.funs.getD i default).val.op),(sL (cA (A i) 8) (p.funs.getD i default).val.kids.length (cK (A i) 8))])) (en (i:=4) V V V (i_ a2 V) V V V) V V (aV V a_ (zc (nA ex (p.funs.getD i default).val (HS.call a2) M M M ax M) ?_))));rintro _ fu ⟨f8,e7,d1,b0,rfl,rfl⟩;replace b0:=HS.back a2 V b0;refine aV V a_ (ao (v:=(.bool (decide ((20:Int)<((dpE (p.funs.getD i default).val:Nat):Int))))) (ew V V V V) V V (ao (v:=(.bool (decide ((20:Int)<((dpE (p.funs.getD i default).val:Nat):Int))))) (bz V a_ V) V V (aQ ?_)));exact aD ⟨V,⟨_,(fT (fT fR bw) d1),HS.sub b0 (List.Sublist.refl _)⟩,(by repeat' first|exact Lr|refine Lu V ?_),(agC (congrArg Value.bool (show(decide ((20:Int)<((dpE (p.funs.getD i default).val:Nat):Int)))=(((((((decide ((6:Int)<((p.funs.getD i default).pars.length:Int)))||(decide ((8:Int)<((p.funs.getD i default).locs.length:Int))))||(decide ((200:Int)<((nSs (p.funs.getD i default).body:Nat):Int))))||(decide ((16:Int)<((wSs (p.funs.getD i default).body:Nat):Int))))||(decide ((20:Int)<((dSs (p.funs.getD i default).body 0:Nat):Int))))||cV (p.funs.getD i default).body)||(decide ((20:Int)<((dpE (p.funs.getD i default).val:Nat):Int)))) by simp only[↓O,↓U,↓Z,↓an,↓al,↓a_,BT])) agN)⟩
        have co:=a_;try simp only[BS]at co
        refine aw V a_ V (aw V a_ V (aw V a_ V (ao (v:=(.bool true)) (aI V a_ V) V V (aQ ?_))));exact aD ⟨V,⟨_,(fT fR bw),HS.sub a2 (List.Sublist.refl _)⟩,(by repeat' first|exact Lr|refine Lu V ?_),(agC (congrArg Value.bool (show true=(((((((decide ((6:Int)<((p.funs.getD i default).pars.length:Int)))||(decide ((8:Int)<((p.funs.getD i default).locs.length:Int))))||(decide ((200:Int)<((nSs (p.funs.getD i default).body:Nat):Int))))||(decide ((16:Int)<((wSs (p.funs.getD i default).body:Nat):Int))))||(decide ((20:Int)<((dSs (p.funs.getD i default).body 0:Nat):Int))))||cV (p.funs.getD i default).body)||(decide ((20:Int)<((dpE (p.funs.getD i default).val:Nat):Int)))) by simp only[↓O,↓U,↓Z,↓an,↓al,↓a_,BT])) agN)⟩
       have ci:=al;try simp only[BS]at ci
       refine aw V al V (aw V al V (ao (v:=(.bool true)) (aI V al V) V V (zm (.bool true) (aw V V V (aw V V V ?_)))));refine aw V V V (aw V V V (ao (v:=(.bool true)) (aI V V V) V V (aQ ?_)));exact aD ⟨V,⟨_,fR,HS.sub E (List.Sublist.refl _)⟩,(by repeat' first|exact Lr|refine Lu V ?_),(agC (congrArg Value.bool (show true=(((((((decide ((6:Int)<((p.funs.getD i default).pars.length:Int)))||(decide ((8:Int)<((p.funs.getD i default).locs.length:Int))))||(decide ((200:Int)<((nSs (p.funs.getD i default).body:Nat):Int))))||(decide ((16:Int)<((wSs (p.funs.getD i default).body:Nat):Int))))||(decide ((20:Int)<((dSs (p.funs.getD i default).body 0:Nat):Int))))||cV (p.funs.getD i default).body)||(decide ((20:Int)<((dpE (p.funs.getD i default).val:Nat):Int)))) by simp only[↓O,↓U,↓Z,↓an,↓al,BT])) agN)⟩
      have ch:=an;try simp only[BS]at ch
      refine aw V an V (ao (v:=(.bool true)) (aI V an V) V V (zm (.bool true) (aw V V V (aw V V V (aw V V V ?_)))));refine ao (v:=(.bool true)) (aI V V V) V V (zm (.bool true) (aw V V V (aw V V V (aw V V V (aw V V V ?_)))));refine ao (v:=(.bool true)) (aI V V V) V V (aQ ?_);exact aD ⟨V,⟨_,fR,HS.sub E (List.Sublist.refl _)⟩,(by repeat' first|exact Lr|refine Lu V ?_),(agC (congrArg Value.bool (show true=(((((((decide ((6:Int)<((p.funs.getD i default).pars.length:Int)))||(decide ((8:Int)<((p.funs.getD i default).locs.length:Int))))||(decide ((200:Int)<((nSs (p.funs.getD i default).body:Nat):Int))))||(decide ((16:Int)<((wSs (p.funs.getD i default).body:Nat):Int))))||(decide ((20:Int)<((dSs (p.funs.getD i default).body 0:Nat):Int))))||cV (p.funs.getD i default).body)||(decide ((20:Int)<((dpE (p.funs.getD i default).val:Nat):Int)))) by simp only[↓O,↓U,↓Z,↓an,BT])) agN)⟩
     have b9:=Z;try simp only[BS]at b9
     refine aw V Z V (ao (v:=(.bool true)) (aI V Z V) V V (zm (.bool true) (aw V V V (aw V V V (ao (v:=(.bool true)) (aI V V V) V V ?_)))));refine zm (.bool true) (aw V V V (aw V V V (aw V V V (ao (v:=(.bool true)) (aI V V V) V V (zm (.bool true) ?_)))));refine aw V V V (aw V V V (aw V V V (aw V V V (ao (v:=(.bool true)) (aI V V V) V V (aQ ?_)))));exact aD ⟨V,⟨_,fR,HS.sub E (List.Sublist.refl _)⟩,(by repeat' first|exact Lr|refine Lu V ?_),(agC (congrArg Value.bool (show true=(((((((decide ((6:Int)<((p.funs.getD i default).pars.length:Int)))||(decide ((8:Int)<((p.funs.getD i default).locs.length:Int))))||(decide ((200:Int)<((nSs (p.funs.getD i default).body:Nat):Int))))||(decide ((16:Int)<((wSs (p.funs.getD i default).body:Nat):Int))))||(decide ((20:Int)<((dSs (p.funs.getD i default).body 0:Nat):Int))))||cV (p.funs.getD i default).body)||(decide ((20:Int)<((dpE (p.funs.getD i default).val:Nat):Int)))) by simp only[↓O,↓U,↓Z,BT])) agN)⟩
    have b8:=U;try simp only[BS]at b8
    refine aw V U V (ao (v:=(.bool true)) (aI V U V) V V (zm (.bool true) (aw V V V (aw V V V (ao (v:=(.bool true)) (aI V V V) V V ?_)))));refine zm (.bool true) (aw V V V (aw V V V (ao (v:=(.bool true)) (aI V V V) V V (zm (.bool true) (aw V V V ?_)))));refine aw V V V (aw V V V (ao (v:=(.bool true)) (aI V V V) V V (zm (.bool true) (aw V V V (aw V V V ?_)))));refine aw V V V (aw V V V (ao (v:=(.bool true)) (aI V V V) V V (aQ ?_)));exact aD ⟨V,⟨_,fR,HS.sub E (List.Sublist.refl _)⟩,(by repeat' first|exact Lr|refine Lu V ?_),(agC (congrArg Value.bool (show true=(((((((decide ((6:Int)<((p.funs.getD i default).pars.length:Int)))||(decide ((8:Int)<((p.funs.getD i default).locs.length:Int))))||(decide ((200:Int)<((nSs (p.funs.getD i default).body:Nat):Int))))||(decide ((16:Int)<((wSs (p.funs.getD i default).body:Nat):Int))))||(decide ((20:Int)<((dSs (p.funs.getD i default).body 0:Nat):Int))))||cV (p.funs.getD i default).body)||(decide ((20:Int)<((dpE (p.funs.getD i default).val:Nat):Int)))) by simp only[↓O,↓U,BT])) agN)⟩
   have b6:=O;try simp only[BS]at b6
   refine aw V O V (aw V O V (aw V O V (ao (v:=(.bool true)) (aI V O V) V V (zm (.bool true) (aw V V V ?_)))));refine aw V V V (ao (v:=(.bool true)) (aI V V V) V V (zm (.bool true) (aw V V V (aw V V V (ao (v:=(.bool true)) (aI V V V) V V ?_)))));refine zm (.bool true) (aw V V V (aw V V V (ao (v:=(.bool true)) (aI V V V) V V (zm (.bool true) (aw V V V ?_)))));refine aw V V V (aw V V V (ao (v:=(.bool true)) (aI V V V) V V (zm (.bool true) (aw V V V (aw V V V ?_)))));refine aw V V V (aw V V V (ao (v:=(.bool true)) (aI V V V) V V (aQ ?_)));exact aD ⟨V,⟨_,fR,HS.sub E (List.Sublist.refl _)⟩,(by repeat' first|exact Lr|refine Lu V ?_),(agC (congrArg Value.bool (show true=(((((((decide ((6:Int)<((p.funs.getD i default).pars.length:Int)))||(decide ((8:Int)<((p.funs.getD i default).locs.length:Int))))||(decide ((200:Int)<((nSs (p.funs.getD i default).body:Nat):Int))))||(decide ((16:Int)<((wSs (p.funs.getD i default).body:Nat):Int))))||(decide ((20:Int)<((dSs (p.funs.getD i default).body 0:Nat):Int))))||cV (p.funs.getD i default).body)||(decide ((20:Int)<((dpE (p.funs.getD i default).val:Nat):Int)))) by simp only[↓O,BT])) agN)⟩
  skip;rintro f2 fk ⟨e5,c5,c7⟩;refine ai 1 V (zi 1 2 (fun bb=>?_) fun bb=>?_)
  ·try simp only[BS]at bb
   have c3:=dg_y (l:=p.funs) (i:=i) M (by simpa only[aT] using bb);refine wT 1 [] 2 2 [] [(2,(.bool true))] V fun _=>ae ⟨.inr V,_,V,true,_,(fT (fT (fT (a5) a6) aA) c5),(HS.forget c7),V,(ex_3 bf h2 g1 c3).symm⟩
  try simp only[BS]at bb
  have go:=dg_n (l:=p.funs) (i:=i) M (by simpa only[aT] using bb);refine wU 1 [] 47 48 [4] [(4,(iI ((i:Int)+1)))] (vi (n:=(i:Int)+1)) V fun _=>?_
  refine d3 _ _ _ ?_ ⟨i+1,_,(fT (fT (a6) aA) c5),(HS.sub c7 (a05 _ _)),⟨V,V,trivial⟩,V,(g1.trans go),M⟩;omega
 refine wT 1 [] 2 2 [] [(2,(.bool false))] V fun _=>ae ⟨.inr V,_,V,false,_,(fT (a5) a6),(HS.forget a1),V,((ex_4 bf h2 (g1.trans (dg_e M))).symm)⟩
end Go.Proofs.YtkpgbdkkgcdhmaaGreat.ca
