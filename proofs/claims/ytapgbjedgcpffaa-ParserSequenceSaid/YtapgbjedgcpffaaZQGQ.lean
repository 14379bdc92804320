/-
Plain laws: what the functions compute answers as the statement says. No condition beyond those that each statement names.
-/
import Derived.Test.YtapgbjedgcpffaaZQGP
import Derived.Test.YtapgbjedgcpffaaZQGB
noncomputable section
namespace Go.Proofs.Ytapgbjedgcpffaa.gq
open Go.R w3 l1 pt ga gb ca cb cc cd ta tb gp
set_option linter.unusedVariables false
set_option linter.unusedSimpArgs false
structure PF(p:PrgT):Prop where
 f:ffP p [102]=0
 g:ffP p [103]=1
 pf:(p.funs.getD 0 default).pars.length=2
 pg:(p.funs.getD 1 default).pars.length=1
structure GS(f:Int)(p:PrgT)(d:Nat)(s:StmT):Prop where
 nd:ndS s<=200 *nS s
 ds: ∀k,dS s k<=k+d
 td:tdS s=false
 wf:wfS s=true
 nb:nbS s
 df:dfS (aF f) abG p s=true
 ar:arS p s=true
structure GL(f:Int)(p:PrgT)(d:Nat)(l:List StmT):Prop where
 nd:eG l<=200 *nSs l
 ds: ∀k,dSs l k<=k+d
 td:db l=false
 wf:cE l=true
 nb:nbSs l
 df:iH (aF f) abG p l=true
 ar:arSs p l=true
section
variable {f:Int} {p:PrgT} {d:Nat}
theorem GL.nil:GL f p d []:=⟨a06 _,fun _=>a0p _,rfl,rfl,by rw[nbSs];trivial,rfl,rfl⟩
theorem GL.cons{s:StmT}{l:List StmT}(a:GS f p d s)(b:GL f p d l):GL f p d (s::l):=by
 refine⟨?_,fun k=>?_,?_,?_,?_,?_,?_⟩
 ·rw[eG,nSs];have:=a.nd;have:=b.nd;omega
 ·rw[dSs];have:=a.ds k;have:=b.ds k;omega
 ·rw[db,a.td,b.td];rfl
 ·rw[cE,a.wf,b.wf];rfl
 ·rw[nbSs];exact⟨a.nb,b.nb⟩
 ·rw[iH,a.df,b.df];rfl
 rw[arSs,a.ar,b.ar];rfl
def GT(f:Int)(p:PrgT)(d:Nat)(l:List StmT):Prop:=l=[]\/∃e,d=e+1/\GL f p e l
theorem GT.all{l:List StmT}(h:GT f p d l):eG l<=200 *nSs l/\(∀k,dSs l (k+1)<=k+d)/\db l=false/\cE l=true/\nbSs l/\iH (aF f) abG p l=true/\arSs p l=true:=by
 rcases h with rfl|⟨e,rfl,h⟩
 ·have h:GL f p 0 []:= .nil;exact⟨h.nd,fun _=>a0p _,h.td,h.wf,h.nb,h.df,h.ar⟩
 exact⟨h.nd,fun k=>by have:=h.ds (k+1);omega,h.td,h.wf,h.nb,h.df,h.ar⟩
theorem GS.of{s:StmT}{A V:Nat}(ht:GT f p d s.thn)(he:GT f p d s.els)(ha:ndE s.at_<=A)(hv:ndE s.val<=V)(hr:A+V+gx s.args<=190)(b3:dpE s.at_<=20)(b4:dpE s.val<=20)(an:(s.args.any fun x=>decide (20<dpE x))=false)(hw:dO s.args=true)(hk:wfK s=true)(hn:s.name.b.length<=1/\s.to.b.length<=1)(ax:nbE s.at_/\nbE s.val/\fK s.args)(al:dfK (aF f) abG p s=true)(h:arK p s=true):GS f p d s:=by
 obtain⟨t1,t3,t4,t5,t6,t7,t8⟩:=ht.all;obtain⟨e1,E,O,T,U,Y,Z⟩:=he.all;refine⟨?_,fun k=>?_,?_,?_,?_,?_,?_⟩
 ·rw[ns_s,n_s];omega
 ·rw[d_s];have:=t3 k;have:=E k;omega
 ·rw[td_s,decide_eq_false (by omega),decide_eq_false (by omega),t4,O,an];rfl
 ·rw[wf_s,wfA,hw,hk,t5,T];rfl
 ·obtain⟨q1,q2,q3⟩:=ax;cases s;rw[nbS];exact⟨Nat.lt_of_le_of_lt hn.1 (by decide),Nat.lt_of_le_of_lt hn.2 (by decide),q1,q2,q3,t6,U⟩
 ·rw[df_s,al,t7,Y];rfl
 rw[ar_s,h,t8,Z];rfl
end
theorem zE_ok:ndE zE<=1/\dpE zE<=20/\isZ zE=true/\nbE zE/\∀f:Int,dfE (aF f) abG zE=true:=by
 refine⟨by decide,by decide,by decide,?_,fun f=>?_⟩
 ·show nbE ⟨0,0,bD,0,[]⟩;rw[nbE];exact⟨by decide,by rw[fK];trivial⟩
 rw[df_e];rfl
theorem ge_b{f:Int}{d:Nat}{e:ExpT}(h:GE f d e)(hd:d<=4):ndE e<=121/\dpE e<=20:=by
 have E:Nd d<=121:=by
  rcases d with _|_|_|_|_|d
  ·decide
  ·decide
  ·decide
  ·decide
  ·decide
  omega
 have:=h.nd;have:=h.dp
 omega
theorem ge_b3{f:Int}{d:Nat}{e:ExpT}(h:GE f d e)(hd:d<=3):ndE e<=40/\True:=by
 have E:Nd d<=40:=by
  rcases d with _|_|_|_|d
  ·decide
  ·decide
  ·decide
  ·decide
  omega
 have:=h.nd;exact⟨by omega,trivial⟩
def Ct(r q:RdT)(n w:Nat):Prop:=q.l<:+r.l/\n+q.l.length<=r.l.length/\q.n=r.n+(w:Int)/\(w=0\/q.n<=10)
theorem Ct.z(r:RdT):Ct r r 0 0:=⟨a1I _,by omega,by omega,.inl rfl⟩
theorem Ct.tr{r q t:RdT}{n w m v:Nat}(a:Ct r q n w)(b:Ct q t m v):Ct r t (n+m) (w+v):=by obtain⟨E,T,U,Y⟩:=a;obtain⟨O,Z,h,b4⟩:=b;exact⟨O.trans E,by omega,by omega,by omega⟩
theorem args_ok{f:Int}: ∀(k:Nat) {r:RdT},InR r->k<=2->(bQ f k r).1.length=k/\gx (bQ f k r).1<=40 *k/\((bQ f k r).1.any fun x=>decide (20<dpE x))=false/\dO (bQ f k r).1=true/\fK (bQ f k r).1/\eY (aF f) abG (bQ f k r).1=true/\(bQ f k r).2.l<:+r.l/\(bQ f k r).2.n=r.n
 |0,r,_,_=>⟨rfl,a06 _,rfl,rfl,by rw[bQ,fK];trivial,rfl,a1I _,rfl⟩
 |k+1,r,h,hk=>by
  obtain⟨E,O,T⟩:=g0 (f:=f) 2 h;have O:=O.trans (cV r);obtain⟨U,b2,Y,Z,b6,b7,b8,b9⟩:=args_ok (f:=f) k (h.of O) (by omega);have q:=ge_b3 E (by decide);rw[bQ];refine⟨by rw[a01,U],?_,?_,?_,?_,?_,b8.trans O,b9.trans T⟩
  ·rw[gx];omega
  ·rw[List.any_cons,Y,decide_eq_false (by have:=(ge_b E (by decide)).2;omega)];rfl
  ·rw[dO,E.wf,Z];rfl
  ·rw[fK];exact⟨E.nb,b6⟩
  rw[eY,E.df,b7];rfl
section
variable {f:Int} {p:PrgT} {d:Nat} {sub:Nat->RdT->List StmT×RdT} {flat:Bool}
theorem stB_ok(hp:PF p)(hs: ∀m r,InR r->GT f p d (sub m r).1/\Ct r (sub m r).2 (nSs (sub m r).1) (wSs (sub m r).1)){r:RdT}(hr:InR r):GS f p d (fQ sub flat f r).1/\Ct (ae r) (fQ sub flat f r).2 (nS (fQ sub flat f r).1-1) (wS (fQ sub flat f r).1):=by
 have h:InR (ae r):=hr.of (cV r);have hi:InR (incG (ae r)):=h;obtain⟨Y,Z,z3,z4,z5⟩:=zE_ok;obtain⟨k1,k2,k3⟩:=nm_ok f _ (nm_mem f (hdG r));have T:GT f p d []:= .inl rfl;have c0: ∀{q:RdT},q.l<:+(ae r).l->q.n=(ae r).n->Ct (ae r) q 0 0:=fun h1 h2=>⟨h1,by have:=h1.length_le;omega,by omega,.inl rfl⟩
 have cL: ∀{a b q:RdT} {n w:Nat},a.l<:+(ae r).l->a.n=(ae r).n->Ct a q n w->Ct (ae r) q n w:=fun h1 h2 h3=>by have:=(c0 h1 h2).tr h3;rwa [a0A,a0A]at this
 unfold fQ;split
 ·obtain⟨E,O,U⟩:=g0 (f:=f) 4 h;have q:=ge_b E (by decide);refine⟨GS.of (A:=1) (V:=121) T T Y q.1 (by show _+0<=_;omega) Z q.2 rfl rfl ?_ ⟨by show(nmG f (hdG r)).b.length<=1;omega,a0p _⟩ ⟨z4,E.nb,by show fK [];rw[fK];trivial⟩ ?_ rfl,c0 (O.trans (cV _)) U⟩
  ·show(((((((true&&true)&&vnm (nmG f (hdG r)).b)&&true)&&true)&&isZ zE)&&true)&&wfE (ad f 4 (ae r)).1)=true;rw[k2,z3,E.wf];rfl
  unfold dfK swK;show(true&&dfE _ _ zE&&dfE _ _ (ad f 4 (ae r)).1&&dz (aF f) (nmG f (hdG r)).b)=true;rw[z5,E.df,k3];rfl
 split
 ·obtain⟨E,O,U⟩:=g0 (f:=f) 2 h;have O:=O.trans (cV _);obtain⟨b1,b2,b3⟩:=g0 (f:=f) 3 (h.of O);obtain⟨m1,m2,m3⟩:=ab_ok _ (ab_mem _ (a1C (am ((hdG r).tdiv 16) 1000) (by decide)));have q:=ge_b3 E (by decide);have q2:=ge_b3 b1 (by decide)
  refine⟨GS.of (A:=40) (V:=40) T T q.1 q2.1 (by show _+0<=_;omega) (ge_b E (by decide)).2 (ge_b b1 (by decide)).2 rfl rfl ?_ ⟨by show(abG.getD _ default).b.length<=1;omega,a0p _⟩ ⟨E.nb,b1.nb,by show fK [];rw[fK];trivial⟩ ?_ rfl,c0 ((b2.trans (cV _)).trans O) (b3.trans U)⟩
  ·show(((((((true&&true)&&vnm (abG.getD (am ((hdG r).tdiv 16) 1000%2) default).b)&&true)&&true)&&wfE (ad f 2 (ae r)).1)&&true)&&wfE (ad f 3 (ad f 2 (ae r)).2).1)=true;rw[m2,E.wf,b1.wf];rfl
  unfold dfK swK;show(true&&dfE _ _ (ad f 2 (ae r)).1&&dfE _ _ (ad f 3 (ad f 2 (ae r)).2).1&&dz abG (abG.getD (am ((hdG r).tdiv 16) 1000%2) default).b)=true;rw[E.df,b1.df,m3];rfl
 split
 ·obtain⟨E,O,U⟩:=g0 (f:=f) 3 h;have O:=O.trans (cV _);obtain⟨t1,t2⟩:=hs 3 _ (h.of O);obtain⟨e1,e2⟩:=hs 2 _ ((h.of O).of t2.1);have q:=ge_b3 E (by decide);refine⟨GS.of (A:=1) (V:=40) t1 e1 Y q.1 (by show _+0<=_;omega) Z (ge_b E (by decide)).2 rfl rfl ?_ ⟨a0p _,a0p _⟩ ⟨z4,E.nb,by show fK [];rw[fK];trivial⟩ ?_ rfl,?_⟩
  ·show((((((true&&true)&&true)&&isZ zE)&&true))&&wfE (ad f 3 (ae r)).1)=true;rw[z3,E.wf];rfl
  ·unfold dfK swK;show(true&&dfE _ _ zE&&dfE _ _ (ad f 3 (ae r)).1&&true)=true;rw[z5,E.df];rfl
  rw[n_s,w_s];have:=cL (b:=r) O U (t2.tr e2);show Ct _ _ (1+nSs (sub 3 _).1+nSs (sub 2 _).1-1) (0+wSs (sub 3 _).1+wSs (sub 2 _).1);rwa [a0A,a0E,Nat.add_sub_cancel_left]
 split
 ·next d4 d5=>
  obtain⟨E,O,U⟩:=g0 (f:=f) 3 hi;have O:=O.trans (cV _);obtain⟨t1,t2⟩:=hs 3 _ (hi.of O);have q:=ge_b3 E (by decide);refine⟨GS.of (A:=1) (V:=40) t1 T Y q.1 (by show _+0<=_;omega) Z (ge_b E (by decide)).2 rfl rfl ?_ ⟨a0p _,a0p _⟩ ⟨z4,E.nb,by show fK [];rw[fK];trivial⟩ ?_ rfl,?_⟩
  ·show(((((((true&&true)&&true)&&isZ zE)&&true))&&wfE (ad f 3 (incG (ae r))).1)&&true)=true;rw[z3,E.wf];rfl
  ·unfold dfK swK;show(true&&dfE _ _ zE&&dfE _ _ (ad f 3 (incG (ae r))).1&&true)=true;rw[z5,E.df];rfl
  rw[n_s,w_s];have dt:=kG_loops (flat:=flat) (r:=r) (by omega);have h1:Ct (ae r) (ad f 3 (incG (ae r))).2 0 1:=⟨O,by have q1:=O.length_le;have q2:(incG (ae r)).l.length=(ae r).l.length:=rfl;omega,by rw[U];rfl,.inr (by rw[U];show(ae r).n+1<=10;omega)⟩
  have:=h1.tr t2;show Ct _ _ (1+nSs (sub 3 _).1+0-1) (1+wSs (sub 3 _).1+0);rwa [Nat.add_zero,Nat.add_zero,Nat.add_sub_cancel_left,←a0A (nSs _)]
 split
 ·obtain⟨E,O,U⟩:=g0 (f:=f) 3 h;have q:=ge_b3 E (by decide);refine⟨GS.of (A:=1) (V:=40) T T Y q.1 (by show _+0<=_;omega) Z (ge_b E (by decide)).2 rfl rfl ?_ ⟨a0p _,a0p _⟩ ⟨z4,E.nb,by show fK [];rw[fK];trivial⟩ ?_ rfl,c0 (O.trans (cV _)) U⟩
  ·show(((true&&true)&&((((true&&true)&&true)&&isZ zE)&&true))&&wfE (ad f 3 (ae r)).1)=true;rw[z3,E.wf];rfl
  unfold dfK swK;show(true&&dfE _ _ zE&&dfE _ _ (ad f 3 (ae r)).1&&true)=true;rw[z5,E.df];rfl
 split
 ·obtain⟨b1,b2,b4,b5,b6,b7,b8,b9⟩:=args_ok (f:=f) (2-am ((hdG r).tdiv 16) 1000%2) h (by omega);have e2: ∀m,m<2->(([⟨[102]⟩,⟨[103]⟩]:List Str).getD m default).b.length=1/\vnm (([⟨[102]⟩,⟨[103]⟩]:List Str).getD m default).b=true/\ffP p (([⟨[102]⟩,⟨[103]⟩]:List Str).getD m default).b=(m:Int)/\(p.funs.getD m default).pars.length=2-m:=by
   intro m hm;rcases m with _|_|m
   ·exact⟨rfl,by decide,hp.f,hp.pf⟩
   ·exact⟨rfl,by decide,hp.g,hp.pg⟩
   omega
  have hm:=a1C (am ((hdG r).tdiv 16) 1000) (show 0<2 by decide);obtain⟨v1,v2,v3,v4⟩:=e2 _ hm;refine⟨GS.of (A:=1) (V:=1) T T Y Y (by show _+gx (bQ f (2-am ((hdG r).tdiv 16) 1000%2) (ae r)).1<=_;omega) Z Z b4 b5 ?_ ⟨by show(nmG f (hdG r)).b.length<=1;omega,by show(([⟨[102]⟩,⟨[103]⟩]:List Str).getD (am ((hdG r).tdiv 16) 1000%2) default).b.length<=1;omega⟩ ⟨z4,z4,b6⟩ ?_ ?_,c0 b8 b9⟩
  ·show((((((true&&true)&&vnm (nmG f (hdG r)).b)&&vnm (([⟨[102]⟩,⟨[103]⟩]:List Str).getD (am ((hdG r).tdiv 16) 1000%2) default).b)&&true)&&isZ zE)&&isZ zE)=true;rw[k2,v2,z3];rfl
  ·unfold dfK swK;show(eY _ _ (bQ f (2-am ((hdG r).tdiv 16) 1000%2) (ae r)).1&&dfE _ _ zE&&dfE _ _ zE&&(dz (aF f) (nmG f (hdG r)).b&&decide (0<=ffP p (([⟨[102]⟩,⟨[103]⟩]:List Str).getD (am ((hdG r).tdiv 16) 1000%2) default).b)))=true;rw[b7,z5,k3,v3,decide_eq_true (by omega)];rfl
  show(!(true&&(((bQ f (2-am ((hdG r).tdiv 16) 1000%2) (ae r)).1.length:Int) !=((p.funs.getD (ffP p (([⟨[102]⟩,⟨[103]⟩]:List Str).getD (am ((hdG r).tdiv 16) 1000%2) default).b).toNat default).pars.length:Int))))=true;rw[v3,Int.toNat_natCast,v4,b1,bne_self_eq_false];rfl
 have hq:=cC (n:=(hdG r).tdiv 16) (m:=1000) (by decide);refine⟨GS.of (A:=1) (V:=1) T T Y Y (by show _+0<=_;omega) Z Z rfl rfl ?_ ⟨a0p _,a0p _⟩ ⟨z4,z4,by show fK [];rw[fK];trivial⟩ ?_ rfl,Ct.z _⟩
 ·show((((((((true&&true)&&true)&&true)&&decide ((0:Int)<=((am ((hdG r).tdiv 16) 1000:Nat):Int)))&&decide (((am ((hdG r).tdiv 16) 1000:Nat):Int)<=1000000))&&isZ zE)&&isZ zE)&&true)=true;rw[decide_eq_true (by omega),decide_eq_true (by omega),z3];rfl
 unfold dfK swK;show(true&&dfE _ _ zE&&dfE _ _ zE&&true)=true;rw[z5];rfl
theorem row_ok(hs: ∀r,InR r->GS f p d (aO f d r).1/\Ct (ae r) (aO f d r).2 (nS (aO f d r).1-1) (wS (aO f d r).1)): ∀(k:Nat) {r:RdT},InR r->GL f p d (jt (aO f d) k r).1/\Ct r (jt (aO f d) k r).2 (nSs (jt (aO f d) k r).1) (wSs (jt (aO f d) k r).1)
 |0,r,_=>⟨.nil,.z _⟩
 |k+1,r,h=>by
  rw[jt];split
  ·exact⟨.nil,.z _⟩
  next hl=>
  obtain⟨a,b⟩:=hs r h;have E:Ct r (aO f d r).2 (nS (aO f d r).1) (wS (aO f d r).1):=by
   obtain⟨c1,c2,O,T⟩:=b;have:(ae r).l.length+1=r.l.length:=by
    show r.l.tail.length+1=_;cases e:r.l with
    |nil=>exact absurd e hl
    |cons x l=>rfl
   exact⟨c1.trans (cV r),by omega,O,T⟩
  obtain⟨c,e⟩:=row_ok hs k (h.of E.1);refine⟨.cons a c,?_⟩;rw[nSs,wSs];exact E.tr e
theorem st_ok(E:PF p): ∀(d:Nat) {r:RdT},InR r->GS f p d (aO f d r).1/\Ct (ae r) (aO f d r).2 (nS (aO f d r).1-1) (wS (aO f d r).1)
 |0,r,h=>stB_ok E (fun m r _=>⟨.inl rfl,.z r⟩) h
 |d+1,r,h=>stB_ok (d:=d+1) E (fun m q O=>by
   obtain⟨a,b⟩:=row_ok (fun r h=>st_ok E d h) (am (hdG q) (m+1)) (O.of (cV q));refine⟨.inr ⟨d,rfl,a⟩,?_⟩;have c:Ct q (ae q) 0 0:=⟨cV q,by have:=(cV q).length_le;omega,by show q.n=q.n+0;omega,.inl rfl⟩
   have:=c.tr b;rwa [a0A,a0A]at this) h
theorem sts_ok(O:PF p)(d E:Nat){r:RdT}(h:InR r):GL f p d (az f d E r).1/\Ct r (az f d E r).2 (nSs (az f d E r).1) (wSs (az f d E r).1):=by
 obtain⟨a,b⟩:=row_ok (fun r h=>st_ok O d h) (am (hdG r) (E+1)) (h.of (cV r));refine⟨a,?_⟩;have c:Ct r (ae r) 0 0:=⟨cV r,by have:=(cV r).length_le;omega,by show r.n=r.n+0;omega,.inl rfl⟩
 have:=c.tr b;rwa [a0A,a0A]at this
end
theorem pg_pf(l:List Int):PF (bx l):=⟨rfl,rfl,rfl,rfl⟩
theorem rd_in{l:List Int}(h: ∀x∈l,in64 x):InR (rdG l):=fun x E=>h x (List.mem_of_mem_take E)
theorem lP{l:List Int}(h: ∀x∈l,in64 x):(GL 0 (bx l) 3 (cp l).1/\GE 0 3 (ei l).1/\GL 1 (bx l) 2 (cU l).1/\GE 1 3 (gS l).1)/\nSs (cp l).1+nSs (cU l).1<=60/\wSs (cp l).1<=10/\wSs (cU l).1<=10:=by
 have T:=rd_in h;have hp:=pg_pf l;obtain⟨U,Y,Z,O,a5⟩:=sts_ok (f:=0) hp 3 5 (T.of (cV _));have hA:InR (cp l).2:=(T.of (cV _)).of Y;obtain⟨b1,E,b3⟩:=g0 (f:=0) 3 hA;have E:=E.trans (cV _);have hB:InR (ei l).2:=hA.of E;obtain⟨c1,c2,c3,c4,c5⟩:=sts_ok (f:=1) hp 2 3 hB;obtain⟨d1,d2,d3⟩:=g0 (f:=1) 3 (hB.of c2);refine⟨⟨U,b1,c1,d1⟩,?_,?_,?_⟩
 ·have k1:nSs (cp l).1+(cp l).2.l.length<=(ae (rdG l)).l.length:=Z;have k2:nSs (cU l).1+(cU l).2.l.length<=(ei l).2.l.length:=c3;have k3:(ei l).2.l.length<=(cp l).2.l.length:=E.length_le;have k4:=(cV (rdG l)).length_le;have k5:(rdG l).l.length<=60:=take60 l;omega
 ·have k1:(cp l).2.n=0+(wSs (cp l).1:Int):=O;have k2:wSs (cp l).1=0\/(cp l).2.n<=10:=a5;omega
 have k1:(cp l).2.n=0+(wSs (cp l).1:Int):=O;have k3:(ei l).2.n=(cp l).2.n:=b3;have k4:(cU l).2.n=(ei l).2.n+(wSs (cU l).1:Int):=c4;have k5:wSs (cU l).1=0\/(cU l).2.n<=10:=c5;omega
theorem pg_small{l:List Int}(h: ∀x∈l,in64 x):SnP (bx l)/\NbP (bx l):=by
 obtain⟨⟨a,b,c,d⟩,E,_,_⟩:=lP h;have O:=cC (n:=hdG (rdG l)) (m:=4) (by decide);have T:=cC (n:=(hdG (rdG l)).tdiv 4) (m:=4) (by decide);refine⟨⟨show 2<_ by decide,show 2<_ by decide,?_⟩,⟨?_,?_⟩⟩
 ·intro f U;rcases a0j.1 U with rfl|U
  ·exact⟨show 2<_ by decide,show 2<_ by decide,by have:=a.nd;show eG (cp l).1<_;omega,by have:=ge_b b (by decide);show ndE (ei l).1<_;omega⟩
  obtain rfl:=a0N.1 U;exact⟨show 1<_ by decide,show 1<_ by decide,by have:=c.nd;show eG (cU l).1<_;omega,by have:=ge_b d (by decide);show ndE (gS l).1<_;omega⟩
 ·intro a ha;rcases a0j.1 ha with rfl|ha
  ·exact show 1<4611686018427387904 by decide
  obtain rfl:=a0N.1 ha;exact show 1<4611686018427387904 by decide
 intro f U;rcases a0j.1 U with rfl|U
 ·exact⟨show 1<4611686018427387904 by decide,(by decide: ∀s∈([⟨[120]⟩,⟨[121]⟩]:List Str),s.b.length<4611686018427387904),(by decide: ∀s∈([⟨[105]⟩,⟨[106]⟩]:List Str),s.b.length<4611686018427387904),a.nb,b.nb⟩
 obtain rfl:=a0N.1 U;exact⟨show 1<4611686018427387904 by decide,(by decide: ∀s∈([⟨[110]⟩]:List Str),s.b.length<4611686018427387904),(by decide: ∀s∈([⟨[105]⟩]:List Str),s.b.length<4611686018427387904),c.nb,d.nb⟩
end Go.Proofs.Ytapgbjedgcpffaa.gq
