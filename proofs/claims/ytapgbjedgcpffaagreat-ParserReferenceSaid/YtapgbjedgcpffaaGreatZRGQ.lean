/-
Plain laws: what the functions compute answers as the statement says. No condition beyond those that each statement names.
-/
import Derived.Test.YtapgbjedgcpffaaGreatZRGP
import Derived.Test.YtapgbjedgcpffaaGreatZRGB
noncomputable section
namespace Go.Proofs.YtapgbjedgcpffaaGreat.gq
open Go.R w3 l1 pt ga gb ca cb cc cd ta tb gp
set_option linter.unusedVariables false
set_option linter.unusedSimpArgs false
abbrev zGQ1:List Str:=[⟨[102]⟩,⟨[103]⟩]
structure PF(p:PrgT):Prop where
 f:ffP p [102]=0
 g:ffP p [103]=1
 pf:(p.funs.getD 0 default).pars.length=2
 pg:(p.funs.getD 1 default).pars.length=1
structure GS(f:Int)(p:PrgT)(d:Nat)(s:StmT):Prop where
 nd:ndS s<=200 *nS s
 len: ∀ind:List UInt8,ind.length+2 *d<=20->(fmS s ind).length<=2200 *nS s
 ds: ∀k,dS s k<=k+d
 td:tdS s=false
 wf:wfS s=true
 nb:nbS s
 df:dfS (aT f) abG p s=true
 ar:arS p s=true
structure GL(f:Int)(p:PrgT)(d:Nat)(l:List StmT):Prop where
 nd:fw l<=200 *nSs l
 len: ∀ind:List UInt8,ind.length+2 *d<=20->(dq l ind).length<=2200 *nSs l
 ds: ∀k,dSs l k<=k+d
 td:dU l=false
 wf:eO l=true
 nb:nbSs l
 df:kE (aT f) abG p l=true
 ar:arSs p l=true
section
variable {f:Int} {p:PrgT} {d:Nat}
theorem GL.nil:GL f p d []:=⟨a07 _,fun _ _=>a0l _,fun _=>a0l _,V,V,by rw[nbSs];trivial,V,V⟩
theorem GL.cons{s:StmT}{l:List StmT}(a:GS f p d s)(b:GL f p d l):GL f p d (s::l):=by
 refine⟨?_,fun ind h=>?_,fun k=>?_,?_,?_,?_,?_,?_⟩
 ·rw[fw,nSs];have:=a.nd;have:=b.nd;omega
 ·rw[dq,nSs,a00];have:=a.len ind h;have:=b.len ind h;omega
 ·rw[dSs];have:=a.ds k;have:=b.ds k;omega
 ·rw[dU,a.td,b.td];rfl
 ·rw[eO,a.wf,b.wf];rfl
 ·rw[nbSs];exact⟨a.nb,b.nb⟩
 ·rw[kE,a.df,b.df];rfl
 rw[arSs,a.ar,b.ar];rfl
def GT(f:Int)(p:PrgT)(d:Nat)(l:List StmT):Prop:=l=[]\/∃e,d=e+1/\GL f p e l
theorem GT.all{l:List StmT}(h:GT f p d l):fw l<=200 *nSs l/\(∀ind:List UInt8,ind.length+2 *d<=20->(dq l (ind++[32,32])).length<=2200 *nSs l)/\(∀k,dSs l (k+1)<=k+d)/\dU l=false/\eO l=true/\nbSs l/\kE (aT f) abG p l=true/\arSs p l=true:=by
 rcases h with rfl|⟨e,rfl,h⟩
 ·have h:GL f p 0 []:= .nil;exact⟨h.nd,fun _ _=>a0l _,fun _=>a0l _,h.td,h.wf,h.nb,h.df,h.ar⟩
 exact⟨h.nd,fun ind k=>h.len _ (by rw[a00];show ind.length+2+2 *e<=20;omega),fun k=>by have:=h.ds (k+1);omega,h.td,h.wf,h.nb,h.df,h.ar⟩
theorem GS.of{s:StmT}{A a_:Nat}(ht:GT f p d s.thn)(he:GT f p d s.els)(ha:ndE s.at_<=A)(hv:ndE s.val<=a_)(hr:A+a_+im s.args<=190)(hl: ∀ind t e:List UInt8,ind.length<=20->(fmK s ind t e).length<=2170+t.length+e.length)(b4:dpE s.at_<=20)(b5:dpE s.val<=20)(ar:(s.args.any fun x=>decide (20<dpE x))=false)(hw:fC s.args=true)(hk:wfK s=true)(hn:s.name.b.length<=1/\s.to.b.length<=1)(a0:nbE s.at_/\nbE s.val/\gF s.args)(an:dfK (aT f) abG p s=true)(al:arK p s=true):GS f p d s:=by
 obtain⟨t1,t2,t3,t4,t5,t6,t7,t8⟩:=ht.all;obtain⟨e1,E,O,T,U,Y,Z,e8⟩:=he.all;refine⟨?_,fun ind h=>?_,fun k=>?_,?_,?_,?_,?_,?_⟩
 ·rw[ns_s,n_s];omega
 ·rw[fm_s,n_s,a00];have:=hl ind (dq s.thn (ind++[32,32])) (dq s.els (ind++[32,32])) M;have:=t2 ind h;have:=E ind h
  omega
 ·rw[d_s];have:=t3 k;have:=O k;omega
 ·rw[td_s,decide_eq_false M,decide_eq_false M,t4,T,ar];rfl
 ·rw[wf_s,wfA,hw,hk,t5,U];rfl
 ·obtain⟨q1,q2,q3⟩:=a0;cases s;rw[nbS];exact⟨a1u hn.1 e_,a1u hn.2 e_,q1,q2,q3,t6,Y⟩
 ·rw[df_s,an,t7,Z];rfl
 rw[ar_s,al,t8,e8];rfl
end
theorem zE_ok:ndE zE<=1/\dpE zE<=20/\isZ zE=true/\nbE zE/\∀f:Int,dfE (aT f) abG zE=true:=by
 refine⟨by decide,by decide,by decide,?_,fun f=>?_⟩
 ·show nbE ⟨0,0,dy,0,[]⟩;rw[nbE];exact⟨by decide,by rw[gF];trivial⟩
 rw[df_e];rfl
theorem ge_b{f:Int}{d:Nat}{e:ExpT}(h:GE f d e)(hd:d<=4):ndE e<=121/\(fmE e).length<=2100/\dpE e<=20:=by
 have E:Nd d<=121/\Ld d<=2100:=by
  rcases d with _|_|_|_|_|d
  ·decide
  ·decide
  ·decide
  ·decide
  ·decide
  omega
 have:=h.nd;have:=h.len;have:=h.dp
 omega
theorem ge_b3{f:Int}{d:Nat}{e:ExpT}(h:GE f d e)(hd:d<=3):ndE e<=40/\(fmE e).length<=696:=by
 have E:Nd d<=40/\Ld d<=696:=by
  rcases d with _|_|_|_|d
  ·decide
  ·decide
  ·decide
  ·decide
  omega
 have:=h.nd;have:=h.len
 omega
def Ct(r q:RdT)(n w:Nat):Prop:=q.l<:+r.l/\n+q.l.length<=r.l.length/\q.n=r.n+(w:Int)/\(w=0\/q.n<=10)
theorem Ct.z(r:RdT):Ct r r 0 0:=⟨a1M _,by omega,by omega,.inl V⟩
theorem Ct.tr{r q t:RdT}{n w m v:Nat}(a:Ct r q n w)(b:Ct q t m v):Ct r t (n+m) (w+v):=by obtain⟨E,T,U,Y⟩:=a;obtain⟨O,Z,b3,b4⟩:=b;exact⟨O.trans E,by omega,by omega,by omega⟩
theorem args_ok{f:Int}: ∀(k:Nat) {r:RdT},InR r->k<=2->(dv f k r).1.length=k/\im (dv f k r).1<=40 *k/\(∀b,(jnR b (strs (kg (dv f k r).1))).length<=700 *k)/\((dv f k r).1.any fun x=>decide (20<dpE x))=false/\fC (dv f k r).1=true/\gF (dv f k r).1/\f0 (aT f) abG (dv f k r).1=true/\(dv f k r).2.l<:+r.l/\(dv f k r).2.n=r.n
 |0,r,_,_=>⟨V,a07 _,fun b=>by cases b<;>exact a07 _,V,V,by rw[dv,gF];trivial,V,a1M _,V⟩
 |k+1,r,h,hk=>by
  obtain⟨E,O,T⟩:=kC (f:=f) 2 h;have O:=O.trans (fg r);obtain⟨U,b2,Y,Z,b5,b6,b7,b8,b9⟩:=args_ok (f:=f) k (h.of O) M;have q:=ge_b3 E e_;rw[dv];refine⟨by rw[a02,U],?_,fun b=>?_,?_,?_,?_,?_,b8.trans O,b9.trans T⟩
  ·rw[im];omega
  ·show(jnR b (strs (kg (_::_)))).length<=_;rw[kg];show(jnR b (⟨_⟩::strs (kg _))).length<=_
   rw[jnR,a00,a00];have:=Y true;have:(if b=true then([44,32]:List UInt8) else []).length<=2:=by split<;>decide
   show _+(fmE (am f 2 r).1).length+_<=_;omega
  ·rw[List.any_cons,Z,decide_eq_false (by have:=(ge_b E e_).2.2;omega)];rfl
  ·rw[fC,E.wf,b5];rfl
  ·rw[gF];exact⟨E.nb,b6⟩
  rw[f0,E.df,b7];rfl
section
variable {f:Int} {p:PrgT} {d:Nat} {sub:Nat->RdT->List StmT×RdT} {flat:Bool}
theorem stB_ok(hp:PF p)(hs: ∀m r,InR r->GT f p d (sub m r).1/\Ct r (sub m r).2 (nSs (sub m r).1) (wSs (sub m r).1)){r:RdT}(hr:InR r):GS f p d (iA sub flat f r).1/\Ct (ao r) (iA sub flat f r).2 (nS (iA sub flat f r).1-1) (wS (iA sub flat f r).1):=by
 have hn:InR (ao r):=hr.of (fg r);have hi:InR (incG (ao r)):=hn;obtain⟨Y,Z,z3,z4,z5⟩:=zE_ok;obtain⟨k1,k2,k3⟩:=nm_ok f _ (nm_mem f (hdG r));have T:GT f p d []:= .inl V;have c0: ∀{q:RdT},q.l<:+(ao r).l->q.n=(ao r).n->Ct (ao r) q 0 0:=fun h1 h2=>⟨h1,by have:=h1.length_le;omega,by omega,.inl V⟩
 have cL: ∀{a b q:RdT} {n w:Nat},a.l<:+(ao r).l->a.n=(ao r).n->Ct a q n w->Ct (ao r) q n w:=fun h1 h2 h3=>by have:=(c0 h1 h2).tr h3;rwa [a0A,a0A]at this
 unfold iA;split
 ·obtain⟨E,O,U⟩:=kC (f:=f) 4 hn;have q:=ge_b E e_;refine⟨GS.of (A:=1) (a_:=121) T T Y q.1 (by show _+0<=_;omega) (fun ind t e h=>?_) Z q.2.2 V V ?_ ⟨by show(nmG f (hdG r)).b.length<=1;omega,a0l _⟩ ⟨z4,E.nb,by show gF [];rw[gF];trivial⟩ ?_ V,c0 (O.trans (fg _)) U⟩
  ·rw[fk_1 rfl];show((nmG f (hdG r)).b++[32,61,32]++fmE (am f 4 (ao r)).1++[59,10]).length<=_
   simp only[a00,a02,List.length_nil];omega
  ·show(((((((true&&true)&&vnm (nmG f (hdG r)).b)&&true)&&true)&&isZ zE)&&true)&&wfE (am f 4 (ao r)).1)=true;rw[k2,z3,E.wf];rfl
  unfold dfK swK;show(true&&dfE _ _ zE&&dfE _ _ (am f 4 (ao r)).1&&fA (aT f) (nmG f (hdG r)).b)=true;rw[z5,E.df,k3];rfl
 split
 ·obtain⟨E,O,U⟩:=kC (f:=f) 2 hn;have O:=O.trans (fg _);obtain⟨b1,b2,b3⟩:=kC (f:=f) 3 (hn.of O);obtain⟨m1,m2,m3⟩:=ab_ok _ (ab_mem _ (Nat.mod_lt (aw ((hdG r).tdiv 16) 1000) e_));have q:=ge_b3 E e_;have q2:=ge_b3 b1 e_
  refine⟨GS.of (A:=40) (a_:=40) T T q.1 q2.1 (by show _+0<=_;omega) (fun ind t e h=>?_) (ge_b E e_).2.2 (ge_b b1 e_).2.2 V V ?_ ⟨by show(abG.getD _ default).b.length<=1;omega,a0l _⟩ ⟨E.nb,b1.nb,by show gF [];rw[gF];trivial⟩ ?_ V,c0 ((b2.trans (fg _)).trans O) (b3.trans U)⟩
  ·rw[fk_2 rfl];show((abG.getD _ default).b++[91]++fmE (am f 2 (ao r)).1++[93,32,61,32]++fmE (am f 3 (am f 2 (ao r)).2).1++[59,10]).length<=_
   simp only[a00,a02,List.length_nil];omega
  ·show(((((((true&&true)&&vnm (abG.getD (aw ((hdG r).tdiv 16) 1000%2) default).b)&&true)&&true)&&wfE (am f 2 (ao r)).1)&&true)&&wfE (am f 3 (am f 2 (ao r)).2).1)=true;rw[m2,E.wf,b1.wf];rfl
  unfold dfK swK;show(true&&dfE _ _ (am f 2 (ao r)).1&&dfE _ _ (am f 3 (am f 2 (ao r)).2).1&&fA abG (abG.getD (aw ((hdG r).tdiv 16) 1000%2) default).b)=true;rw[E.df,b1.df,m3];rfl
 split
 ·obtain⟨E,O,U⟩:=kC (f:=f) 3 hn;have O:=O.trans (fg _);obtain⟨t1,t2⟩:=hs 3 _ (hn.of O);obtain⟨e1,e2⟩:=hs 2 _ ((hn.of O).of t2.1);have q:=ge_b3 E e_;refine⟨GS.of (A:=1) (a_:=40) t1 e1 Y q.1 (by show _+0<=_;omega) (fun ind t e h=>?_) Z (ge_b E e_).2.2 V V ?_ ⟨a0l _,a0l _⟩ ⟨z4,E.nb,by show gF [];rw[gF];trivial⟩ ?_ V,?_⟩
  ·rw[fk_3 rfl];have: ∀{b:Prop} [Decidable b],(if b then [32,101,108,115,101,32,123,10]++e++ind++[125] else []).length<=9+e.length+ind.length:=by
    intro b _;split
    ·simp only[a00,a02,List.length_nil];omega
    exact a0l _
   have:=this (b:=0<(mkS 3 dy dy 0 zE (am f 3 (ao r)).1 [] (sub 3 (am f 3 (ao r)).2).1 (sub 2 (sub 3 (am f 3 (ao r)).2).2).1).els.length);simp only[a00,a02,List.length_nil]at this⊢;show _+(fmE (am f 3 (ao r)).1).length+_+_+_+_+_+_<=_;omega
  ·show((((((true&&true)&&true)&&isZ zE)&&true))&&wfE (am f 3 (ao r)).1)=true;rw[z3,E.wf];rfl
  ·unfold dfK swK;show(true&&dfE _ _ zE&&dfE _ _ (am f 3 (ao r)).1&&true)=true;rw[z5,E.df];rfl
  rw[n_s,w_s];have:=cL (b:=r) O U (t2.tr e2);show Ct _ _ (1+nSs (sub 3 _).1+nSs (sub 2 _).1-1) (0+wSs (sub 3 _).1+wSs (sub 2 _).1);rwa [a0A,a12,Nat.add_sub_cancel_left]
 split
 ·next dd dk=>
  obtain⟨E,O,U⟩:=kC (f:=f) 3 hi;have O:=O.trans (fg _);obtain⟨t1,t2⟩:=hs 3 _ (hi.of O);have q:=ge_b3 E e_;refine⟨GS.of (A:=1) (a_:=40) t1 T Y q.1 (by show _+0<=_;omega) (fun ind t e h=>?_) Z (ge_b E e_).2.2 V V ?_ ⟨a0l _,a0l _⟩ ⟨z4,E.nb,by show gF [];rw[gF];trivial⟩ ?_ V,?_⟩
  ·rw[fk_4 rfl];show([119,104,105,108,101,32,40]++fmE (am f 3 (incG (ao r))).1++[41,32,123,10]++t++ind++[125,10]).length<=_
   simp only[a00,a02,List.length_nil];omega
  ·show(((((((true&&true)&&true)&&isZ zE)&&true))&&wfE (am f 3 (incG (ao r))).1)&&true)=true;rw[z3,E.wf];rfl
  ·unfold dfK swK;show(true&&dfE _ _ zE&&dfE _ _ (am f 3 (incG (ao r))).1&&true)=true;rw[z5,E.df];rfl
  rw[n_s,w_s];have c9:=kG_loops (flat:=flat) (r:=r) M;have h1:Ct (ao r) (am f 3 (incG (ao r))).2 0 1:=⟨O,by have q1:=O.length_le;have q2:(incG (ao r)).l.length=(ao r).l.length:=rfl;omega,by rw[U];rfl,.inr (by rw[U];show(ao r).n+1<=10;omega)⟩
  have:=h1.tr t2;show Ct _ _ (1+nSs (sub 3 _).1+0-1) (1+wSs (sub 3 _).1+0);rwa [a1v,a1v,Nat.add_sub_cancel_left,←a0A (nSs _)]
 split
 ·obtain⟨E,O,U⟩:=kC (f:=f) 3 hn;have q:=ge_b3 E e_;refine⟨GS.of (A:=1) (a_:=40) T T Y q.1 (by show _+0<=_;omega) (fun ind t e h=>?_) Z (ge_b E e_).2.2 V V ?_ ⟨a0l _,a0l _⟩ ⟨z4,E.nb,by show gF [];rw[gF];trivial⟩ ?_ V,c0 (O.trans (fg _)) U⟩
  ·rw[fk_5 rfl];show([111,117,116,32]++fmE (am f 3 (ao r)).1++[59,10]).length<=_
   simp only[a00,a02,List.length_nil];omega
  ·show(((true&&true)&&((((true&&true)&&true)&&isZ zE)&&true))&&wfE (am f 3 (ao r)).1)=true;rw[z3,E.wf];rfl
  unfold dfK swK;show(true&&dfE _ _ zE&&dfE _ _ (am f 3 (ao r)).1&&true)=true;rw[z5,E.df];rfl
 split
 ·obtain⟨b1,b2,b3,b4,b5,b6,b7,b8,b9⟩:=args_ok (f:=f) (2-aw ((hdG r).tdiv 16) 1000%2) hn M;have e2: ∀m,m<2->(zGQ1.getD m default).b.length=1/\vnm (zGQ1.getD m default).b=true/\ffP p (zGQ1.getD m default).b=(m:Int)/\(p.funs.getD m default).pars.length=2-m:=by
   intro m hm;rcases m with _|_|m
   ·exact⟨V,by decide,hp.f,hp.pf⟩
   ·exact⟨V,by decide,hp.g,hp.pg⟩
   omega
  have hm:=Nat.mod_lt (aw ((hdG r).tdiv 16) 1000) (show 0<2 by decide);obtain⟨v1,v2,v3,v4⟩:=e2 _ hm;refine⟨GS.of (A:=1) (a_:=1) T T Y Y (by show _+im (dv f (2-aw ((hdG r).tdiv 16) 1000%2) (ao r)).1<=_;omega) (fun ind t e h=>?_) Z Z b4 b5 ?_ ⟨by show(nmG f (hdG r)).b.length<=1;omega,by show(zGQ1.getD (aw ((hdG r).tdiv 16) 1000%2) default).b.length<=1;omega⟩ ⟨z4,z4,b6⟩ ?_ ?_,c0 b8 b9⟩
  ·rw[fk_6 (show(6:Int)≠1 by decide) (show(6:Int)≠2 by decide) (show(6:Int)≠5 by decide) (show(6:Int)≠7 by decide) (show(6:Int)≠4 by decide) (show(6:Int)≠3 by decide)];show((nmG f (hdG r)).b++[32,61,32]++(zGQ1.getD (aw ((hdG r).tdiv 16) 1000%2) default).b++[40]++jnR false (strs (kg (dv f (2-aw ((hdG r).tdiv 16) 1000%2) (ao r)).1))++[41,59,10]).length<=_;have:=b3 false;simp only[a00,a02,List.length_nil];omega
  ·show((((((true&&true)&&vnm (nmG f (hdG r)).b)&&vnm (zGQ1.getD (aw ((hdG r).tdiv 16) 1000%2) default).b)&&true)&&isZ zE)&&isZ zE)=true;rw[k2,v2,z3];rfl
  ·unfold dfK swK;show(f0 _ _ (dv f (2-aw ((hdG r).tdiv 16) 1000%2) (ao r)).1&&dfE _ _ zE&&dfE _ _ zE&&(fA (aT f) (nmG f (hdG r)).b&&decide (0<=ffP p (zGQ1.getD (aw ((hdG r).tdiv 16) 1000%2) default).b)))=true;rw[b7,z5,k3,v3,decide_eq_true M];rfl
  show(!(true&&(((dv f (2-aw ((hdG r).tdiv 16) 1000%2) (ao r)).1.length:Int) !=((p.funs.getD (ffP p (zGQ1.getD (aw ((hdG r).tdiv 16) 1000%2) default).b).toNat default).pars.length:Int))))=true;rw[v3,Int.toNat_natCast,v4,b1,bne_self_eq_false];rfl
 have hq:=br (n:=(hdG r).tdiv 16) (m:=1000) e_;refine⟨GS.of (A:=1) (a_:=1) T T Y Y (by show _+0<=_;omega) (fun ind t e h=>?_) Z Z V V ?_ ⟨a0l _,a0l _⟩ ⟨z4,z4,by show gF [];rw[gF];trivial⟩ ?_ V,Ct.z _⟩
 ·rw[fk_7 rfl];have:=tx_le (n:=((aw ((hdG r).tdiv 16) 1000:Nat):Int)) M;show([116,114,97,112,32]++gI ((aw ((hdG r).tdiv 16) 1000:Nat):Int)++[59,10]).length<=_;simp only[a00,a02,List.length_nil];omega
 ·show((((((((true&&true)&&true)&&true)&&decide ((0:Int)<=((aw ((hdG r).tdiv 16) 1000:Nat):Int)))&&decide (((aw ((hdG r).tdiv 16) 1000:Nat):Int)<=1000000))&&isZ zE)&&isZ zE)&&true)=true;rw[decide_eq_true M,decide_eq_true M,z3];rfl
 unfold dfK swK;show(true&&dfE _ _ zE&&dfE _ _ zE&&true)=true;rw[z5];rfl
theorem row_ok(hs: ∀r,InR r->GS f p d (dE f d r).1/\Ct (ao r) (dE f d r).2 (nS (dE f d r).1-1) (wS (dE f d r).1)): ∀(k:Nat) {r:RdT},InR r->GL f p d (mu (dE f d) k r).1/\Ct r (mu (dE f d) k r).2 (nSs (mu (dE f d) k r).1) (wSs (mu (dE f d) k r).1)
 |0,r,_=>⟨.nil,.z _⟩
 |k+1,r,h=>by
  rw[mu];split
  ·exact⟨.nil,.z _⟩
  next hl=>
  obtain⟨a,b⟩:=hs r h;have E:Ct r (dE f d r).2 (nS (dE f d r).1) (wS (dE f d r).1):=by
   obtain⟨c1,c2,O,T⟩:=b;have:(ao r).l.length+1=r.l.length:=by
    show r.l.tail.length+1=_;cases e:r.l with
    |nil=>exact absurd e hl
    |cons x l=>rfl
   exact⟨c1.trans (fg r),by omega,O,T⟩
  obtain⟨c,e⟩:=row_ok hs k (h.of E.1);refine⟨.cons a c,?_⟩;rw[nSs,wSs];exact E.tr e
theorem st_ok(E:PF p): ∀(d:Nat) {r:RdT},InR r->GS f p d (dE f d r).1/\Ct (ao r) (dE f d r).2 (nS (dE f d r).1-1) (wS (dE f d r).1)
 |0,r,h=>stB_ok E (fun m r _=>⟨.inl V,.z r⟩) h
 |d+1,r,h=>stB_ok (d:=d+1) E (fun m q O=>by
   obtain⟨a,b⟩:=row_ok (fun r h=>st_ok E d h) (aw (hdG q) (m+1)) (O.of (fg q));refine⟨.inr ⟨d,V,a⟩,?_⟩;have c:Ct q (ao q) 0 0:=⟨fg q,by have:=(fg q).length_le;omega,by show q.n=q.n+0;omega,.inl V⟩
   have:=c.tr b;rwa [a0A,a0A]at this) h
theorem sts_ok(E:PF p)(d most:Nat){r:RdT}(h:InR r):GL f p d (aN f d most r).1/\Ct r (aN f d most r).2 (nSs (aN f d most r).1) (wSs (aN f d most r).1):=by
 obtain⟨a,b⟩:=row_ok (fun r h=>st_ok E d h) (aw (hdG r) (most+1)) (h.of (fg r));refine⟨a,?_⟩;have c:Ct r (ao r) 0 0:=⟨fg r,by have:=(fg r).length_le;omega,by show r.n=r.n+0;omega,.inl V⟩
 have:=c.tr b;rwa [a0A,a0A]at this
end
theorem pg_pf(l:List Int):PF (bK l):=⟨V,V,V,V⟩
theorem rd_in{l:List Int}(h: ∀x∈l,in64 x):InR (rdG l):=fun x E=>h x (List.mem_of_mem_take E)
theorem pg_parts{l:List Int}(h: ∀x∈l,in64 x):(GL 0 (bK l) 3 (gT l).1/\GE 0 3 (nh l).1/\GL 1 (bK l) 2 (kB l).1/\GE 1 3 (progD l).1)/\nSs (gT l).1+nSs (kB l).1<=60/\wSs (gT l).1<=10/\wSs (kB l).1<=10:=by
 have T:=rd_in h;have hp:=pg_pf l;obtain⟨U,Y,Z,O,a5⟩:=sts_ok (f:=0) hp 3 5 (T.of (fg _));have hA:InR (gT l).2:=(T.of (fg _)).of Y;obtain⟨b1,E,b3⟩:=kC (f:=0) 3 hA;have E:=E.trans (fg _);have hB:InR (nh l).2:=hA.of E;obtain⟨c1,c2,c3,c4,c5⟩:=sts_ok (f:=1) hp 2 3 hB;obtain⟨d1,d2,d3⟩:=kC (f:=1) 3 (hB.of c2);refine⟨⟨U,b1,c1,d1⟩,?_,?_,?_⟩
 ·have k1:nSs (gT l).1+(gT l).2.l.length<=(ao (rdG l)).l.length:=Z;have k2:nSs (kB l).1+(kB l).2.l.length<=(nh l).2.l.length:=c3;have k3:(nh l).2.l.length<=(gT l).2.l.length:=E.length_le;have k4:=(fg (rdG l)).length_le;have k5:(rdG l).l.length<=60:=take60 l;omega
 ·have k1:(gT l).2.n=0+(wSs (gT l).1:Int):=O;have k2:wSs (gT l).1=0\/(gT l).2.n<=10:=a5;omega
 have k1:(gT l).2.n=0+(wSs (gT l).1:Int):=O;have k3:(nh l).2.n=(gT l).2.n:=b3;have k4:(kB l).2.n=(nh l).2.n+(wSs (kB l).1:Int):=c4;have k5:wSs (kB l).1=0\/(kB l).2.n<=10:=c5;omega
theorem pg_small{l:List Int}(h: ∀x∈l,in64 x):SnP (bK l)/\NbP (bK l)/\(txP (bK l)).length<=200000:=by
 obtain⟨⟨a,b,c,d⟩,Y,_,_⟩:=pg_parts h;have Z:=br (n:=hdG (rdG l)) (m:=4) e_;have p2:=br (n:=(hdG (rdG l)).tdiv 4) (m:=4) e_;refine⟨⟨show 2<_ by decide,show 2<_ by decide,?_⟩,⟨?_,?_⟩,?_⟩
 ·intro f hf;rcases a0m.1 hf with rfl|hf
  ·exact⟨show 2<_ by decide,show 2<_ by decide,by have:=a.nd;show fw (gT l).1<_;omega,by have:=ge_b b e_;show ndE (nh l).1<_;omega⟩
  obtain rfl:=a0v.1 hf;exact⟨show 1<_ by decide,show 1<_ by decide,by have:=c.nd;show fw (kB l).1<_;omega,by have:=ge_b d e_;show ndE (progD l).1<_;omega⟩
 ·intro a ha;rcases a0m.1 ha with rfl|ha
  ·exact show 1<4611686018427387904 by decide
  obtain rfl:=a0v.1 ha;exact show 1<4611686018427387904 by decide
 ·intro f hf;rcases a0m.1 hf with rfl|hf
  ·exact⟨show 1<4611686018427387904 by decide,(by decide: ∀s∈([⟨[120]⟩,⟨[121]⟩]:List Str),s.b.length<4611686018427387904),(by decide: ∀s∈([⟨[105]⟩,⟨[106]⟩]:List Str),s.b.length<4611686018427387904),a.nb,b.nb⟩
  obtain rfl:=a0v.1 hf;exact⟨show 1<4611686018427387904 by decide,(by decide: ∀s∈([⟨[110]⟩]:List Str),s.b.length<4611686018427387904),(by decide: ∀s∈([⟨[105]⟩]:List Str),s.b.length<4611686018427387904),c.nb,d.nb⟩
 have q1:=tx_le (n:=1+(aw (hdG (rdG l)) 4:Int)) M;have q2:=tx_le (n:=1+(aw ((hdG (rdG l)).tdiv 4) 4:Int)) M;have q3:=a.len [32,32] e_;have q4:=c.len [32,32] e_;have q5:=(ge_b b e_).2.1;have q6:=(ge_b d e_).2.1;have E:(jn [⟨[120]⟩,⟨[121]⟩]).length=4:=rfl;have O:(lcT [⟨[105]⟩,⟨[106]⟩]).length=9:=rfl;have T:(jn [⟨[110]⟩]).length=1:=rfl;have U:(lcT [⟨[105]⟩]).length=6:=rfl;show((arT _++(arT _++[]))++(fnT _++(fnT _++[]))).length<=_;unfold arT fnT;simp only[a00,a02,List.length_nil];show _+1+1+(gI (1+(aw (hdG (rdG l)) 4:Int))).length+_+_+_<=_;omega
end Go.Proofs.YtapgbjedgcpffaaGreat.gq
