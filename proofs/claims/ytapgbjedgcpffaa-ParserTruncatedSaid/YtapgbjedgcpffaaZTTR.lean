/-
Plain laws: what the functions compute answers as the statement says. No condition beyond those that each statement names.
-/
import Derived.Test.YtapgbjedgcpffaaZTRU
import Derived.Test.YtapgbjedgcpffaaZTGX
noncomputable section
namespace Go.Proofs.Ytapgbjedgcpffaa.tr
open Go.R w1 w3 l1 pt pa pb pc pd pe pf pg ca cc cd ta tb gp rt ru gx
set_option linter.unusedVariables false
set_option linter.unusedSimpArgs false
theorem val_fold: ∀(b:List UInt8) (n:Nat),n<=b.foldl lR n
 | [],n=>a07 n
 |c::b,n=>a05 (by unfold lR;omega) (val_fold b (lR n c))
theorem num_take{s:List UInt8}{m:Nat}(h:gw s=true)(hm:0<m):gw (s.take m)=true/\val (s.take m)<=val s:=by
 obtain⟨E,U,O,T⟩:=eg.1 h;have Z:(s.take m).length=min m s.length:=a0i ..;refine⟨eg.2 ⟨by omega,by omega,a0l.2 fun x Y=>a0l.1 O x (a1L Y),fun q=>?_⟩,?_⟩
 ·have:s.getD 0 0=48:=by
   cases s with
   |nil=>exact absurd E (by simp)
   |cons x s=>obtain⟨n,rfl⟩: ∃n,m=n+1:=⟨m-1,by omega⟩;exact q
  have:=T this;omega
 have e:val s=(s.drop m).foldl lR (val (s.take m)):=by unfold val;rw[←List.foldl_append,List.take_append_drop]
 rw[e];exact val_fold ..
theorem par_num{s:List UInt8}(h:gw s=true):aO s=(mM s 9223372036854775807).map fun n=>(n:Int):=by
 obtain⟨E,T,O,U⟩:=eg.1 h;refine mQ fun _ q=>?_
 cases s with
 |nil=>exact absurd E (by simp)
 |cons x s=>
  have Y:=a0l.1 O x (a0r ..)
  unfold eK at Y
  simp only[a04,decide_eq_true_eq]at Y
  have q:(x.toNat:Int)=45:=q
  omega
theorem tk_num{s:List UInt8}{m:Nat}{a b:Int}(h:gw s=true)(T:0<m):Tk ⟨2,⟨s⟩,a⟩ ⟨2,⟨s.take m⟩,b⟩:=by
 obtain⟨E,O⟩:=num_take h T;refine⟨rfl,fun q=>absurd rfl q,fun _ q=>?_⟩;dsimp only at q⊢;rw[par_num h]at q⊢;rw[par_num E];unfold mM at q⊢;split at q
 ·next k=>
  rw[if_pos k,if_pos ⟨E,by omega⟩];refine⟨rfl,fun r=>?_⟩;have r:(val s:Int)<=1000000:=r;show(val (s.take m):Int)<=1000000;omega
 cases q
theorem tw_take{p:UInt8->Bool}: ∀(s:List UInt8) (m:Nat),((s.take m).takeWhile p).length=min (s.takeWhile p).length m
 | [],m=>by simp
 |c::s,0=>by simp
 |c::s,m+1=>by
  rw[a1r,a0Y,a0Y];cases p c with
  |true=>show((s.take m).takeWhile p).length+1=min ((s.takeWhile p).length+1) (m+1);rw[tw_take s m];omega
  |false=>exact(Nat.zero_min _).symm
theorem gU: ∀(s:List UInt8) (b:Bool) (m:Nat),spl b (s.take m)=min (spl b s) m
 | [],b,m=>by rw[List.take_nil,spl];simp
 |c::s,b,0=>by rw[List.take_zero,Nat.min_zero,spl]
 |c::s,false,m+1=>by
  rw[a1r,spl,spl,gU s false m,gU s true m];split
  ·omega
  split<;>omega
 |c::s,true,m+1=>by rw[a1r,spl,spl,gU s false m,gU s true m];split<;>omega
theorem sy_le(s:List UInt8):bk s<=3:=by
 unfold bk;repeat' split
 all_goals omega
theorem sy_3(s:List UInt8):bk (s.take 3)=bk s:=by rcases s with _|⟨a,_|⟨b,_|⟨c,s⟩⟩⟩<;>rfl
theorem sy_take{s:List UInt8}{m:Nat}(h:bk s≠0)(hm:0<m):bk (s.take m)=min (bk s) m:=by
 by_cases h3:3<=m
 ·have Z:=sy_le s;rw[←sy_3,a1t,show min 3 m=3 by omega,sy_3];omega
 rcases s with _|⟨a,s⟩
 ·exact absurd rfl h
 have key:bk (a::s)≠0->a∈cG:=by
  intro h;unfold bk at h;split at h
  ·next e=>injection e with e _;rw[e];decide
  split at h
  ·next e=>rcases e with e|e|e|e|e|e<;>(injection e with e _;rw[e];decide)
  split at h
  ·next e=>exact e
  exact absurd rfl h
 have ha:=key h;have T:bk [a]=1:=by unfold bk;rw[if_neg (by intro e;cases e),if_neg (by rintro(e|e|e|e|e|e)<;>cases e),if_pos (show([a]:List UInt8).getD 0 0∈cG from ha)]
 have hp:1<=bk (a::s):=by omega
 by_cases U:m=1
 ·subst U;show bk [a]=_;rw[T];omega
 have Y:m=2:=by omega
 subst Y;rcases s with _|⟨b,s⟩
 ·show bk [a]=_;rw[T];rfl
 show bk [a,b]=_;have O: ∀(t:List UInt8),(a::b::t).take 2=[a,b]:=fun _=>rfl
 unfold bk;rw[if_neg (show ¬([a,b]:List UInt8).take 3=_ by intro e;cases e),O,O];by_cases E:(a::b::s).take 3=[62,62,62]
 ·rw[if_pos E];have e:[a,b]=[62,62]:=by have:=congrArg (List.take 2) E;rwa [a1t]at this
  rw[if_pos (.inr (.inl e))];rfl
 rw[if_neg E];split
 ·rfl
 rw[if_pos (show([a,b]:List UInt8).getD 0 0∈cG from ha),if_pos (show(a::b::s).getD 0 0∈cG from ha)];rfl
theorem hd_take{s:List UInt8}{m:Nat}(E:0<m):(s.take m).getD 0 0=s.getD 0 0:=by
 obtain⟨n,rfl⟩: ∃n,m=n+1:=⟨m-1,by omega⟩
 cases s<;>rfl
theorem fk_take{s w:List UInt8}{k:Int}{m:Nat}(h:av s=(k,w,0))(hm:0<m):av (s.take m)=(k,w.take m,0)/\(k=2->gw w=true)/\(k≠2->w.length<=16):=by
 have hw:aY (s.take m)=min (aY s) m:=tw_take s m;have tt: ∀n,(s.take m).take (min n m)=(s.take n).take m:=fun n=>by rw[a1t,a1t];congr 1;omega
 unfold av at h⊢;rw[hw,hd_take hm];split at h
 ·next h0=>
  rw[if_pos (by omega)];split at h
  ·injection h with _ h;injection h with _ h;cases h
  next T=>
  injection h with O h;injection h with E _;have hs:=sy_le s;rw[sy_take T hm,if_neg (by omega),tt,O,E];refine⟨rfl,fun q=>(by omega),fun _=>?_⟩;rw[←E,a0i];omega
 next h0=>
 rw[if_neg (by omega)];split at h
 ·next T=>
  rw[if_pos T];split at h
  ·next U=>
   injection h with O h;injection h with E _;rw[E]at U;have hn:w≠ []:=by rintro rfl;have:=congrArg List.length E;have:=jq s;rw[a0i,a03]at *;omega
   obtain⟨Z,v2⟩:=(ph.vn_iff hn).1 U;obtain⟨Y,n2⟩:=num_take Z hm;have ax:w.take m≠ []:=fun e=>by rw[e]at Y;cases Y
   rw[tt,E,if_pos ((ph.vn_iff ax).2 ⟨Y,by omega⟩),O];exact⟨rfl,fun _=>Z,fun q=>absurd rfl (O▸q)⟩
  injection h with _ h;injection h with _ h;cases h
 next T=>
 rw[if_neg T];split at h
 ·injection h with _ h;injection h with _ h;cases h
 next U=>
 injection h with O h;injection h with E _;rw[if_neg (by omega),tt,O,E];refine⟨rfl,fun q=>(by omega),fun _=>?_⟩;rw[←E,a0i];omega
inductive Pre(k:Nat):List Token->List Token->Nat->Prop
 |nil (ts:List Token):Pre k ts [] 0
 |cut (ts:List Token) {u:Token}:u.at_<=(k:Int)->(k:Int)<=u.at_+16->Pre k ts [u] 0
 |step {t u:Token} {ts us:List Token} {c:Nat}:Tk t u->u.at_<=(k:Int)->Pre k ts us c->Pre k (t::ts) (u::us) (c+1)
theorem tk_refl(t:Token):Tk t t:=⟨rfl,fun _=>rfl,fun _ h=>⟨h,id⟩⟩
theorem scan_take{s:List UInt8}{k:Nat}(hk:k<=s.length): ∀(f a:Nat) (ts:List Token),de f s a=(ts,0,0)->a<=k->s.length<a+f->∀g,k<a+g->∃us c,de g (s.take k) a=(us,0,0)/\Pre k ts us c
 |0,a,_,_,h1,T,_,_=>absurd T (by omega)
 |f+1,a,ts,h,h1,T,g,h3=>by
  have dt: ∀n,k<=n->(s.take k).drop n=[]:=fun n hn=>a0O (by rw[a0i];omega)
  rcases a0d a k with U|U
  ·obtain⟨g,rfl⟩: ∃n,g=n+1:=⟨g-1,by omega⟩
   have hd:(s.take k).drop a=(s.drop a).take (k-a):=by rw[a1z]
   rw[de,if_pos (by omega)]at h;rw[de,if_pos (by rw[a0i];omega),hd];generalize hq:av (s.drop a)=q at h;obtain⟨kd,w,e⟩:=q;dsimp only at h;split at h
   ·next he=>
    subst he;obtain⟨f1,O,f3⟩:=fk_take hq (m:=k-a) (by omega);have a7:0<w.length:=by
     rcases w with _|⟨x,w⟩
     ·exfalso;by_cases k2:kd=2
      ·exact absurd (O k2) (by decide)
      unfold av at hq;have hl:0<(s.drop a).length:=by rw[a0F];omega
      repeat' split at hq
      all_goals (injection hq with q1 hq;injection hq with q2 q3)
      all_goals first
       |(have q4:=congrArg List.length q2;rw[a0i,a03]at q4;omega)
       |cases q3
     exact Nat.succ_pos _
    rw[f1,if_pos rfl];dsimp only;generalize hR:de f s (a+w.length+spl false (s.drop (a+w.length)))=R at h;have Y:R.2.1=0:=by
     unfold consT at h;split at h
     ·assumption
     rw[h]
    unfold consT at h;rw[if_pos Y]at h;injection h with E e2;have Z:R=(R.1,0,0):=by rw[←e2]
    rcases a0d (k-a) w.length with hc|hc
    ·have hl:(w.take (k-a)).length=k-a:=by rw[a0i];omega
     rw[hl,show a+(k-a)=k by omega,dt k (a07 k),show k+spl false []=k from rfl,kR (dt k (a07 k))];refine⟨[⟨kd,⟨w.take (k-a)⟩,(a:Int)⟩],?_⟩;by_cases k2:kd=2
     ·subst k2;rw[←E];exact⟨1,rfl,.step (tk_num (O rfl) (by omega)) (by dsimp only;omega) (.nil _)⟩
     have:=f3 k2;exact⟨0,rfl,.cut _ (by dsimp only;omega) (by dsimp only;omega)⟩
    rw[a0A hc];have an:(s.take k).drop (a+w.length)=(s.drop (a+w.length)).take (k-(a+w.length)):=by rw[a1z]
    rw[an,gU];rcases a0d k (a+w.length+spl false (s.drop (a+w.length))) with hb|hb
    ·rw[show a+w.length+min (spl false (s.drop (a+w.length))) (k-(a+w.length))=k by omega,kR (dt k (a07 k))];exact⟨[⟨kd,⟨w⟩,(a:Int)⟩],1,rfl,E▸ .step (tk_refl _) (by dsimp only;omega) (.nil _)⟩
    rw[show min (spl false (s.drop (a+w.length))) (k-(a+w.length))=spl false (s.drop (a+w.length)) by omega];obtain⟨us,c,k1,k2⟩:=scan_take hk f _ R.1 (hR.trans Z) hb (by omega) g (by omega);rw[k1];exact⟨⟨kd,⟨w⟩,(a:Int)⟩::us,c+1,rfl,E▸ .step (tk_refl _) (by dsimp only;omega) k2⟩
   next he=>injection h with _ h;injection h with h _;exact absurd h he
  rw[kR (dt a U)];exact⟨[],0,rfl,.nil _⟩
theorem scanS_take{s:List UInt8}{k:Nat}{ts:List Token}(O:s.length<=20000)(E:k<=s.length)(h:bd s=(ts,0,0)): ∃us c,bd (s.take k)=(us,0,0)/\Pre k ts us c:=by
 have l:(s.take k).length=k:=by rw[a0i];omega
 unfold bd at h⊢;rw[if_neg (by omega)]at h;rw[if_neg (by omega),l,gU];rcases a0d k (spl false s) with hb|hb
 ·rw[show min (spl false s) k=k by omega,kR (a0O (by omega))];exact⟨[],0,rfl,.nil _⟩
 rw[show min (spl false s) k=spl false s by omega];exact scan_take E _ _ ts h hb (by omega) _ (by omega)
section
variable {k c:Nat} {ts us:List Token}
theorem Pre.al(h:Pre k ts us c):Al ts us c:=by
 induction h with
 |nil=>exact fun i hi=>absurd hi (by omega)
 |cut=>exact fun i hi=>absurd hi (by omega)
 |step a b p ih=>
  intro i hi
  cases i with
  |zero=>exact a
  |succ i=>exact ih i (by omega)
theorem Pre.len(h:Pre k ts us c):c<=us.length/\us.length<=c+1/\c<=ts.length:=by
 induction h with
 |nil=>simp
 |cut=>simp
 |step a b p ih=>simp only[a02];omega
theorem Pre.at_(h:Pre k ts us c): ∀i,i<us.length->(us.getD i default).at_<=(k:Int)/\(c<=i->(k:Int)<=(us.getD i default).at_+16):=by
 induction h with
 |nil=>exact fun i hi=>absurd hi (by simp)
 |cut _ a b=>
  intro i hi
  obtain rfl:i=0:=by simpa using hi
  exact⟨a,fun _=>b⟩
 |step a b p ih=>
  intro i hi
  cases i with
  |zero=>exact⟨b,fun q=>absurd q (by omega)⟩
  |succ i=>
   obtain⟨E,O⟩:=ih i (by simpa using hi)
   exact⟨E,fun q=>O (by omega)⟩
end
def Rg(c A F:Nat)(q:Rs (List ArrT×List FunT)):Prop:=match q with
 | .error p=>c<=p
 | .ok (x,_)=>x.1.length<=A/\x.2.length<=F
theorem Rg.far{α:Type}{c A F:Nat}{m:Rs α}{f:α->Nat->Rs (List ArrT×List FunT)}(h:c<=pos m)(k: ∀y j,c<=j->Rg c A F (f y j)):Rg c A F (bnd m f):=by
 cases m with
 |error p=>exact h
 |ok q=>exact k q.1 q.2 h
theorem Rg.bnd{α:Type}{c A F:Nat}{m O:Rs α}{x:α}{j:Nat}{f:α->Nat->Rs (List ArrT×List FunT)}(h:Cl c m O)(e:m= .ok (x,j))(k: ∀y,j<c->Rg c A F (f y j))(k2: ∀y j,c<=j->Rg c A F (f y j)):Rg c A F (pt.bnd O f):=by
 rcases h x j e with⟨E,y,rfl⟩|E
 ·exact k y E
 exact .far E k2
theorem ii{α β:Type}{m:Rs α}{f:α->Nat->Rs β}{r:β×Nat}(h:bnd m f= .ok r): ∃x j,m= .ok (x,j)/\f x j= .ok r:=by
 cases m with
 |error p=>cases h
 |ok q=>exact⟨q.1,q.2,rfl,h⟩
section
variable {ts us:List Token} {c:Nat}
theorem prg_up: ∀{n:Nat} {a A:List ArrT} {f F:List FunT} {i j:Nat},fj ts n a f i= .ok ((A,F),j)->a.length<=A.length/\f.length<=F.length
 |0,_,_,_,_,_,_,h=>by rw[fj]at h;cases h
 |n+1,a,A,f,F,i,j,h=>by
  rw[fj]at h;split at h
  ·injection h with h;injection h with h _;injection h with E O;rw[E,O];exact⟨a07 _,a07 _⟩
  split at h
  ·obtain⟨_,_,_,h⟩:=ii h;obtain⟨_,_,_,h⟩:=ii h;obtain⟨_,_,_,h⟩:=ii h;have:=prg_up h;rw[a00]at this;exact⟨by omega,this.2⟩
  obtain⟨_,_,_,h⟩:=ii h;obtain⟨_,_,_,h⟩:=ii h;have:=prg_up h;rw[a00]at this;exact⟨this.1,by omega⟩
theorem prg_far(T:us.length<=c+1){A F:Nat}{a:List ArrT}{f:List FunT}(ha:a.length<=A)(E:f.length<=F): ∀{n i:Nat},c<=i->Rg c A F (fj us n a f i)
 |0,i,h=>by rw[fj];exact h
 |n+1,i,h=>by
  rw[fj];split
  ·exact⟨ha,E⟩
  have O:isN us (i+1)=false:=by unfold isN;rw[a0c,a0Z (by omega)];rfl
  have e:dR us (i+1)= .error (i+1):=by unfold dR;rw[if_neg (by rw[O];decide)]
  split
  ·rw[e];exact a05 h (a1G i)
  unfold keyM;split
  ·show Rg c A F (pt.bnd (ma us n (i+1)) _);rw[show ma us n (i+1)= .error (i+1) by unfold ma;rw[e];rfl];exact a05 h (a1G i)
  exact h
theorem prg_cl(h:Al ts us c)(Y:c<=us.length)(E:us.length<=c+1)(Z:c<=ts.length): ∀{n n':Nat} {a a' A:List ArrT} {f f' F:List FunT} {i j:Nat},n+12<=n'->fj ts n a f i= .ok ((A,F),j)->a'.length<=a.length->f'.length<=f.length->Rg c A.length F.length (fj us n' a' f' i)
 |0,_,_,_,_,_,_,_,_,_,_,e,_,_=>by rw[fj]at e;cases e
 |n+1,0,_,_,_,_,_,_,_,_,k,_,_,_=>absurd k (by omega)
 |n+1,n'+1,a,a',A,f,f',F,i,j,k,e,ha,hf=>by
  have up:=prg_up e;rcases a0d i c with hi|hi
  ·rw[fj,if_neg (by omega)]at e;rw[fj,if_neg (by omega),h.k hi];have fa: ∀{i:Nat},c<=i->∀s:ArrT,a.length+1<=A.length->Rg c A.length F.length (fj us n' (a'++[s]) f' i):=fun hi s hA=>prg_far E (by rw[a00];simp only[a02,a03];omega) (by omega) hi
   split at e
   ·next q=>
    rw[if_pos q];obtain⟨s,j1,O,e⟩:=ii e;obtain⟨z,j2,T,e⟩:=ii e;obtain⟨u,j3,e3,e⟩:=ii e;have hA:=(prg_up e).1;rw[a00]at hA;have fa:=fun{i:Nat} (hi:c<=i) (s:ArrT)=>fa hi s hA
    have U: ∀y y' j,c<=j->Rg c A.length F.length (bnd (eY us [59] j) fun _ i=>fj us n' (a'++[⟨y,y'⟩]) f' i):=fun y y' j hj=> .far (a05 hj (aA ..)) fun _ j hj=>fa hj _
    have g2: ∀y j,c<=j->Rg c A.length F.length (bnd (eB us j) fun k i=>bnd (eY us [59] i) fun _ i=>fj us n' (a'++[⟨y,k⟩]) f' i):=fun y j hj=> .far (a05 hj (jt ..)) fun _ j hj=>U _ _ j hj
    exact .bnd (gc h _) O (fun y _=> .bnd (smallM_cl h _) T (fun y' _=> .bnd (cx h _ _) e3 (fun _ _=>prg_cl h Y E Z (by omega) e (by rw[a00,a00];simp only[a02,a03];omega) hf) fun _ j hj=>fa hj _) fun y' j hj=>U _ _ j hj) fun y j hj=>g2 y j hj
   next q=>
   rw[if_neg q];obtain⟨u,j1,O,e⟩:=ii e;obtain⟨g,j2,T,e⟩:=ii e;have hF:=(prg_up e).2;rw[a00]at hF;have ff: ∀(g:FunT) {i:Nat},c<=i->Rg c A.length F.length (fj us n' a' (f'++[g]) i):=fun g i hi=>prg_far E (by omega) (by rw[a00];simp only[a02,a03]at *;omega) hi
   exact .bnd (keyM_cl h _ _) O (fun _ _=> .bnd (funM_cl h (by omega) _) T (fun y _=>prg_cl h Y E Z (by omega) e ha (by rw[a00,a00];simp only[a02,a03];omega)) fun y j hj=>ff y hj) fun _ j hj=> .far (a05 hj (funM_pos ..)) fun y j hj=>ff y hj
  exact prg_far E (by omega) (by omega) hi
end
theorem trunc{p q:PrgT}{e:ErrT}{k:Nat}(h:GdP p)(hl:(txP p).length<=20000)(hk:k<=(txP p).length)(r:ParR ((txP p).take k) q e):(e=⟨0,0⟩/\q.funs.length<=p.funs.length/\q.arrs.length<=p.arrs.length)\/(e.why=2/\e.at_<=(k:Int)/\q=⟨[],[]⟩/\(e.at_=(k:Int)\/(k:Int)-16<=e.at_)):=by
 have hs:=sc_p h Sc.nil;rw[a0o,a0o]at hs;obtain⟨ts,h1,Y⟩:=sc_scan hl hs;have d:Dw ts 0 (wdPr p++[]):=by unfold Dw;rw[a0o];exact Y
 have Z:Dw ts (0+(wdPr p).length) []:=d.app;have a6:(wdPr p).length=ts.length:=by rw[←Y,a1S]
 obtain⟨n0,k0⟩:=pr_p h (a0:=[]) (f0:=[]) d (pr_e Z (by omega));have ax:=k0 n0 (a07 n0);obtain⟨us,c,s1,U⟩:=scanS_take hl hk h1;obtain⟨l1,l2,l3⟩:=U.len;have lk:((txP p).take k).length=k:=by rw[a0i];omega
 unfold ParR at r;rw[s1,if_pos rfl,lk]at r;obtain⟨x,i,b,r1,r2,O,T⟩:=r;have cl:=fun n' (q:n0+12<=n')=>prg_cl U.al l1 l2 l3 (a':=[]) (f':=[]) q ax (a07 _) (a07 _)
 rcases r1 with⟨hb,j,hj,E,k1⟩|⟨hb,j,hj,E,k1⟩
 ·have an:=cl (max E (n0+12)) (a0J ..);rw[show fj us (max E (n0+12)) [] [] 0=_ from k1 _ (a1b ..)]at an;have an:x.1.length<=p.arrs.length/\x.2.length<=p.funs.length:=an;rw[hb]at O T;rw[O,T];exact .inl ⟨rfl,an.2,an.1⟩
 have an:=cl (max E (n0+12)) (a0J ..);rw[show fj us (max E (n0+12)) [] [] 0=_ from k1 _ (a1b ..)]at an;have an:c<=j:=an;rw[hb]at O T;rw[O,T];refine .inr ⟨rfl,?_,rfl,?_⟩
 ·show offV us i (k:Int)<=_;unfold offV;split
  ·exact(U.at_ _ (by omega)).1
  exact Int.le_refl _
 show offV us i (k:Int)=_\/_<=offV us i (k:Int);unfold offV;split
 ·have:=(U.at_ i.toNat (by omega)).2 (by omega);exact .inr (by omega)
 exact .inl rfl
end Go.Proofs.Ytapgbjedgcpffaa.tr
