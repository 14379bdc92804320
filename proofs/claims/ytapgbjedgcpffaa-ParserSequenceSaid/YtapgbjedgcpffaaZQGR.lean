/-
Plain laws: what the functions compute answers as the statement says. No condition beyond those that each statement names.
-/
import Derived.Test.YtapgbjedgcpffaaZQGQ
import Derived.Test.YtapgbjedgcpffaaZQRU
noncomputable section
namespace Go.Proofs.Ytapgbjedgcpffaa.gr
open Go.R w3 l1 pt ga gb ca cc cd ta tb gp gq rt ru
set_option linter.unusedVariables false
set_option linter.unusedSimpArgs false
open cb hiding jl jn
theorem hd_nil{r:RdT}(h:r.l=[]):am (hdG r) 16=0:=by unfold hdG;rw[h];decide
theorem nx_lt{r:RdT}(h:r.l≠ []):(ae r).l.length+1=r.l.length:=by
 show r.l.tail.length+1=_;cases e:r.l with
 |nil=>exact absurd e h
 |cons x l=>rfl
theorem nx_le(r:RdT):(ae r).l.length<=r.l.length:=(cV r).length_le
theorem lU{f n:Int}{b:Bool}(h:in64 n):(fmE (gX f n b)).length<=20:=(leaf_ok (f:=f) (d:=0) (b:=b) h).len
theorem l7{f:Int}: ∀(d:Nat) {r:RdT},InR r->(fmE (ad f d r).1).length+60 *(ad f d r).2.l.length<=60 *r.l.length+20
 |0,r,h=>by have T:(fmE (ad f 0 r).1).length<=20:=lU (hd_in h);have:=nx_le r;show _+60 *(ae r).l.length<=_;omega
 |d+1,r,h=>by
  have hn:InR (ae r):=h.of (cV r);have Y:=l7 (f:=f) d hn;obtain⟨g1,E,_⟩:=g0 (f:=f) d hn;have E:=E.trans (cV _);have Z:=l7 (f:=f) d (hn.of E);obtain⟨g2,O,_⟩:=g0 (f:=f) d (hn.of E);have O:=O.trans (cV _);have c1:=l7 (f:=f) d ((hn.of E).of O);by_cases hl:r.l=[]
  ·have U:ad f (d+1) r=(gX f (hdG r) false,ae r):=by rw[ad,if_pos (by rw[hd_nil hl];decide)]
   rw[U];have T:(fmE (gX f (hdG r) false)).length<=20:=lU (hd_in h);have:=nx_le r;show(fmE (gX f (hdG r) false)).length+60 *(ae r).l.length<=_;omega
  have hx:=nx_lt hl;rw[ad];split
  ·have T:(fmE (gX f (hdG r) false)).length<=20:=lU (hd_in h);show(fmE (gX f (hdG r) false)).length+60 *(ae r).l.length<=_;omega
  split
  ·have k1:=(ab_ok _ (ab_mem _ (a1C (am ((hdG r).tdiv 16) 1000) (show 0<2 by decide)))).1;rw[fm_3 rfl rfl];show((_++[91])++fmE (ad f d (ae r)).1++[93]).length+60 *(ad f d (ae r)).2.l.length<=_;simp only[a00,a01,a03];show(abG.getD (am ((hdG r).tdiv 16) 1000%2) default).b.length+_+_+_+_<=_;omega
  split
  ·rw[fm_5 rfl rfl];show((((opF (ad f d (ae r)).1 false (fmE (ad f d (ae r)).1)++[32,63,32])++opF (ad f d (ad f d (ae r)).2).1 false (fmE (ad f d (ad f d (ae r)).2).1))++[32,58,32])++opF (ad f d (ad f d (ad f d (ae r)).2).2).1 false (fmE (ad f d (ad f d (ad f d (ae r)).2).2).1)).length+60 *(ad f d (ad f d (ad f d (ae r)).2).2).2.l.length<=_;have:=eJ (ad f d (ae r)).1 false (fmE (ad f d (ae r)).1);have:=eJ (ad f d (ad f d (ae r)).2).1 false (fmE (ad f d (ad f d (ae r)).2).1);have:=eJ (ad f d (ad f d (ad f d (ae r)).2).2).1 false (fmE (ad f d (ad f d (ad f d (ae r)).2).2).1);simp only[a00,a01,a03];omega
  split
  ·rcases a1c (am ((hdG r).tdiv 16) 1000) with e|e<;>rw[e]
   ·rw[fm_n rfl rfl rfl];show([45]++opF (ad f d (ae r)).1 true (fmE (ad f d (ae r)).1)).length+60 *(ad f d (ae r)).2.l.length<=_;have:=eJ (ad f d (ae r)).1 true (fmE (ad f d (ae r)).1);simp only[a00,a01,a03];omega
   rw[fm_t rfl rfl rfl];show([126]++opF (ad f d (ae r)).1 false (fmE (ad f d (ae r)).1)).length+60 *(ad f d (ae r)).2.l.length<=_;have:=eJ (ad f d (ae r)).1 false (fmE (ad f d (ae r)).1);simp only[a00,a01,a03];omega
  have hm:=a1C (am ((hdG r).tdiv 16) 1000) (show 0<15 by decide);rw[fm_b rfl (show(4:Int)+_≠20 by omega) (show(4:Int)+_≠21 by omega) rfl];show((((opF (ad f d (ae r)).1 false (fmE (ad f d (ae r)).1)++[32])++opX (4+((am ((hdG r).tdiv 16) 1000%15:Nat):Int)))++[32])++opF (ad f d (ad f d (ae r)).2).1 false (fmE (ad f d (ad f d (ae r)).2).1)).length+60 *(ad f d (ad f d (ae r)).2).2.l.length<=_;have:=eJ (ad f d (ae r)).1 false (fmE (ad f d (ae r)).1);have:=eJ (ad f d (ad f d (ae r)).2).1 false (fmE (ad f d (ad f d (ae r)).2).1);have:=opX_le (4+((am ((hdG r).tdiv 16) 1000%15:Nat):Int));simp only[a00,a01,a03];omega
def Co(ind:Nat)(r q:RdT)(n:Nat):Prop:=InR q/\q.l.length<=r.l.length/\n+100 *q.l.length<=100 *r.l.length+ind
def TxS(d:Nat)(s:StmT)(m:Nat):Prop:= ∀ind:List UInt8,ind.length+2 *d<=10->(fmS s ind).length<=m
def TxL(d:Nat)(l:List StmT)(m:Nat):Prop:= ∀ind:List UInt8,ind.length+2 *d<=10->(bV l ind).length<=m
structure RwG(d:Nat)(r:RdT)(x:List StmT×RdT):Prop where
 i:InR x.2
 le:x.2.l.length<=r.l.length
 tx: ∀ind:List UInt8,ind.length+2 *d<=10->(bV x.1 ind).length+100 *x.2.l.length<=100 *r.l.length
 n:inL x.1
structure StG(d:Nat)(r:RdT)(x:StmT×RdT):Prop where
 i:InR x.2
 le:x.2.l.length+1<=r.l.length
 tx: ∀ind:List UInt8,ind.length+2 *d<=10->(fmS x.1 ind).length+100 *x.2.l.length<=100 *r.l.length
 n:kJ x.1
theorem RwG.nil{d:Nat}{r:RdT}(h:InR r):RwG d r ([],r):=⟨h,a06 _,fun ind _=>by rw[bV];show 0+100 *r.l.length<=_;omega,by rw[inL];trivial⟩
theorem RwG.nx{d:Nat}{r:RdT}{x:List StmT×RdT}(h:RwG d (ae r) x):RwG d r x:=⟨h.i,a0h h.le (nx_le r),fun ind k=>a0h (h.tx ind k) (Nat.mul_le_mul_left 100 (nx_le r)),h.n⟩
theorem row_g{d:Nat}{f:Int}(hs: ∀r,InR r->r.l≠ []->StG d r (aO f d r)): ∀(k:Nat) {r:RdT},InR r->RwG d r (jt (aO f d) k r)
 |0,r,h=> .nil h
 |k+1,r,h=>by
  rw[jt];split
  ·exact .nil h
  next hl=>
  have a:=hs r h hl;have b:=row_g hs k a.i;refine⟨b.i,by have:=a.le;have:=b.le;show(jt (aO f d) k (aO f d r).2).2.l.length<=_;omega,fun ind q=>?_,?_⟩
  ·rw[bV,a00];have:=a.tx ind q;have:=b.tx ind q
   show _+_+100 *(jt (aO f d) k (aO f d r).2).2.l.length<=_;omega
  rw[inL];exact⟨a.n,b.n⟩
theorem nm_1(f n:Int):(nmG f n).b.length=1:=(nm_ok f _ (nm_mem f n)).1
structure XpG(r:RdT)(x:ExpT×RdT):Prop where
 i:InR x.2
 le:x.2.l.length<=r.l.length
 tx:(fmE x.1).length+60 *x.2.l.length<=60 *r.l.length+20
 n:inE x.1
theorem xp_g(f:Int)(d:Nat){r:RdT}(h:InR r):XpG r (ad f d r):=by obtain⟨O,E,_⟩:=g0 (f:=f) d h;have E:=E.trans (cV _);exact⟨h.of E,E.length_le,l7 d h,O.ie⟩
theorem args_g{f:Int}: ∀(k:Nat) {r:RdT},InR r->k<=2->InR (bQ f k r).2/\(bQ f k r).2.l.length<=r.l.length/\(∀b,(jnR b (jJ (gc (bQ f k r).1))).length+60 *(bQ f k r).2.l.length<=60 *r.l.length+22 *k)/\inE.inEs (bQ f k r).1
 |0,r,h,_=>⟨h,a06 _,fun b=>by show 0+60 *r.l.length<=_;omega,by show inE.inEs [];rw[inE.inEs];trivial⟩
 |k+1,r,h,hk=>by
  have a:=xp_g f 2 h;obtain⟨E,O,T,U⟩:=args_g (f:=f) k a.i (by omega);refine⟨E,a0h O a.le,fun b=>?_,?_⟩
  ·show(jnR b (jJ (gc ((ad f 2 r).1::(bQ f k (ad f 2 r).2).1)))).length+_<=_;rw[gc];show(jnR b (⟨fmE (ad f 2 r).1⟩::jJ (gc (bQ f k (ad f 2 r).2).1))).length+60 *(bQ f k (ad f 2 r).2).2.l.length<=_;rw[jnR,a00,a00];have:=T true;have:=a.tx;have:(if b=true then([44,32]:List UInt8) else []).length<=2:=by cases b<;>decide
   show _+(fmE (ad f 2 r).1).length+_+_<=_;omega
  show inE.inEs ((ad f 2 r).1::_);rw[inE.inEs];exact⟨a.n,U⟩
theorem zE_in:inE zE:=by show inE ⟨0,0,bD,0,[]⟩;rw[inE];exact⟨by decide,by rw[inE.inEs];trivial⟩
theorem nls:inE.inEs []:=by rw[inE.inEs];trivial
theorem nll:inL []:=by rw[inL];trivial
theorem stB_g{f:Int}{d:Nat}{sub:Nat->RdT->List StmT×RdT}{flat:Bool}(hs: ∀m r,InR r->∀ind:List UInt8,ind.length+2 *d<=10->InR (sub m r).2/\(sub m r).2.l.length<=r.l.length/\(bV (sub m r).1 (ind++[32,32])).length+100 *(sub m r).2.l.length<=100 *r.l.length/\inL (sub m r).1){r:RdT}(hr:InR r)(hl:r.l≠ [])(hd:2 *d<=10):StG d r (fQ sub flat f r):=by
 have hn:InR (ae r):=hr.of (cV r);have hx:=nx_lt hl;have k1:=nm_1 f (hdG r);have k2:=(ab_ok _ (ab_mem _ (a1C (am ((hdG r).tdiv 16) 1000) (show 0<2 by decide)))).1;unfold fQ;split
 ·have a:=xp_g f 4 hn;refine⟨a.i,by have:=a.le;show(ad f 4 (ae r)).2.l.length+1<=_;omega,fun ind q=>?_,?_⟩
  ·rw[fm_s,fk_1 rfl];show(ind++((nmG f (hdG r)).b++[32,61,32]++fmE (ad f 4 (ae r)).1++[59,10])).length+100 *(ad f 4 (ae r)).2.l.length<=_;have:=a.tx;have:=a.le
   simp only[a00,a01,a03];omega
  show kJ ⟨_,_,_,_,_,_,_,_,_⟩;rw[kJ];exact⟨zE_in,a.n,nls,nll,nll⟩
 split
 ·have a:=xp_g f 2 hn;have b:=xp_g f 3 a.i;refine⟨b.i,by have:=a.le;have:=b.le;show(ad f 3 (ad f 2 (ae r)).2).2.l.length+1<=_;omega,fun ind q=>?_,?_⟩
  ·rw[fm_s,fk_2 rfl];show(ind++((abG.getD (am ((hdG r).tdiv 16) 1000%2) default).b++[91]++fmE (ad f 2 (ae r)).1++[93,32,61,32]++fmE (ad f 3 (ad f 2 (ae r)).2).1++[59,10])).length+100 *(ad f 3 (ad f 2 (ae r)).2).2.l.length<=_;have:=a.tx;have:=a.le;have:=b.tx;have:=b.le
   simp only[a00,a01,a03];omega
  show kJ ⟨_,_,_,_,_,_,_,_,_⟩;rw[kJ];exact⟨a.n,b.n,nls,nll,nll⟩
 split
 ·have a:=xp_g f 3 hn;have t:=fun ind h=>hs 3 _ a.i ind h
  have E:=t [] (by show 0+_<=_;omega);have e:=fun ind h=>hs 2 _ E.1 ind h
  have O:=e [] (by show 0+_<=_;omega);refine⟨O.1,by have:=a.le;have:=E.2.1;have:=O.2.1;show(sub 2 (sub 3 (ad f 3 (ae r)).2).2).2.l.length+1<=_;omega,fun ind q=>?_,?_⟩
  ·rw[fm_s,fk_3 rfl];show(ind++([105,102,32,40]++fmE (ad f 3 (ae r)).1++[41,32,123,10]++bV (sub 3 (ad f 3 (ae r)).2).1 (ind++[32,32])++ind++[125]++(if 0<(sub 2 (sub 3 (ad f 3 (ae r)).2).2).1.length then [32,101,108,115,101,32,123,10]++bV (sub 2 (sub 3 (ad f 3 (ae r)).2).2).1 (ind++[32,32])++ind++[125] else [])++[10])).length+100 *(sub 2 (sub 3 (ad f 3 (ae r)).2).2).2.l.length<=_;have:=a.tx;have:=a.le;have:=(t ind q).2.2.1;have:=E.2.1;have:=(e ind q).2.2.1;have:=O.2.1
   have:(if 0<(sub 2 (sub 3 (ad f 3 (ae r)).2).2).1.length then [32,101,108,115,101,32,123,10]++bV (sub 2 (sub 3 (ad f 3 (ae r)).2).2).1 (ind++[32,32])++ind++[125] else []).length<=9+(bV (sub 2 (sub 3 (ad f 3 (ae r)).2).2).1 (ind++[32,32])).length+ind.length:=by
    split
    ·simp only[a00,a01,a03];omega
    exact a0p _
   simp only[a00,a01,a03]at *;omega
  show kJ ⟨_,_,_,_,_,_,_,_,_⟩;rw[kJ];exact⟨zE_in,a.n,nls,E.2.2.2,O.2.2.2⟩
 split
 ·have a:=xp_g f 3 (r:=incG (ae r)) hn;have t:=fun ind h=>hs 3 _ a.i ind h
  have E:=t [] (by show 0+_<=_;omega);have ea:(incG (ae r)).l.length=(ae r).l.length:=rfl;refine⟨E.1,by have:=a.le;have:=E.2.1;show(sub 3 (ad f 3 (incG (ae r))).2).2.l.length+1<=_;omega,fun ind q=>?_,?_⟩
  ·rw[fm_s,fk_4 rfl];show(ind++([119,104,105,108,101,32,40]++fmE (ad f 3 (incG (ae r))).1++[41,32,123,10]++bV (sub 3 (ad f 3 (incG (ae r))).2).1 (ind++[32,32])++ind++[125,10])).length+100 *(sub 3 (ad f 3 (incG (ae r))).2).2.l.length<=_;have:=a.tx;have:=a.le;have:=(t ind q).2.2.1;have:=E.2.1
   simp only[a00,a01,a03]at *;omega
  show kJ ⟨_,_,_,_,_,_,_,_,_⟩;rw[kJ];exact⟨zE_in,a.n,nls,E.2.2.2,nll⟩
 split
 ·have a:=xp_g f 3 hn;refine⟨a.i,by have:=a.le;show(ad f 3 (ae r)).2.l.length+1<=_;omega,fun ind q=>?_,?_⟩
  ·rw[fm_s,fk_5 rfl];show(ind++([111,117,116,32]++fmE (ad f 3 (ae r)).1++[59,10])).length+100 *(ad f 3 (ae r)).2.l.length<=_;have:=a.tx;have:=a.le
   simp only[a00,a01,a03];omega
  show kJ ⟨_,_,_,_,_,_,_,_,_⟩;rw[kJ];exact⟨zE_in,a.n,nls,nll,nll⟩
 split
 ·obtain⟨T,Z,U,Y⟩:=args_g (f:=f) (2-am ((hdG r).tdiv 16) 1000%2) hn (by omega);have k3:(([⟨[102]⟩,⟨[103]⟩]:List Str).getD (am ((hdG r).tdiv 16) 1000%2) default).b.length=1:=by rcases a1c (am ((hdG r).tdiv 16) 1000) with e|e<;>rw[e]<;>rfl
  refine⟨T,by show(bQ f (2-am ((hdG r).tdiv 16) 1000%2) (ae r)).2.l.length+1<=_;omega,fun ind q=>?_,?_⟩
  ·rw[fm_s,fk_6 (show(6:Int)≠1 by decide) (show(6:Int)≠2 by decide) (show(6:Int)≠5 by decide) (show(6:Int)≠7 by decide) (show(6:Int)≠4 by decide) (show(6:Int)≠3 by decide)];show(ind++((nmG f (hdG r)).b++[32,61,32]++(([⟨[102]⟩,⟨[103]⟩]:List Str).getD (am ((hdG r).tdiv 16) 1000%2) default).b++[40]++jn (jJ (gc (bQ f (2-am ((hdG r).tdiv 16) 1000%2) (ae r)).1))++[41,59,10])).length+100 *(bQ f (2-am ((hdG r).tdiv 16) 1000%2) (ae r)).2.l.length<=_;have:=U false;have e:(jn (jJ (gc (bQ f (2-am ((hdG r).tdiv 16) 1000%2) (ae r)).1))).length=(jnR false (jJ (gc (bQ f (2-am ((hdG r).tdiv 16) 1000%2) (ae r)).1))).length:=rfl;simp only[a00,a01,a03];omega
  show kJ ⟨_,_,_,_,_,_,_,_,_⟩;rw[kJ];exact⟨zE_in,zE_in,Y,nll,nll⟩
 have hq:=cC (n:=(hdG r).tdiv 16) (m:=1000) (by decide);refine⟨hn,by show(ae r).l.length+1<=_;omega,fun ind q=>?_,?_⟩
 ·rw[fm_s,fk_7 rfl];have:=tx_le (n:=((am ((hdG r).tdiv 16) 1000:Nat):Int)) (by omega);show(ind++([116,114,97,112,32]++cS ((am ((hdG r).tdiv 16) 1000:Nat):Int)++[59,10])).length+100 *(ae r).l.length<=_;simp only[a00,a01,a03];omega
 show kJ ⟨_,_,_,_,_,_,_,_,_⟩;rw[kJ];exact⟨zE_in,zE_in,nls,nll,nll⟩
theorem sub_g{d:Nat}{f:Int}(hs: ∀r,InR r->r.l≠ []->StG d r (aO f d r))(m:Nat){q:RdT}(h:InR q):RwG d q (subG (aO f d) m q):=(row_g hs (am (hdG q) (m+1)) (h.of (cV q))).nx
theorem RwG.at_{d:Nat}{r:RdT}{x:List StmT×RdT}(a:RwG d r x)(ind:List UInt8)(h:ind.length+2 *(d+1)<=10):InR x.2/\x.2.l.length<=r.l.length/\(bV x.1 (ind++[32,32])).length+100 *x.2.l.length<=100 *r.l.length/\inL x.1:=
 ⟨a.i,a.le,a.tx _ (by rw[a00];show ind.length+2+_<=_;omega),a.n⟩
theorem st_g{f:Int}: ∀(d:Nat),2 *d<=10->∀{r:RdT},InR r->r.l≠ []->StG d r (aO f d r)
 |0,hd,r,h,E=>stB_g (fun m r h ind _=>⟨h,a06 _,by rw[bV];show 0+100 *r.l.length<=_;omega,nll⟩) h E hd
 |d+1,hd,r,h,E=>stB_g (d:=d+1) (fun m q O ind hi=>(sub_g (fun r h E=>st_g d (by omega) h E) m O).at_ ind hi) h E hd
theorem sts_g{f:Int}(d E:Nat)(hd:2 *d<=10){r:RdT}(h:InR r):RwG d r (az f d E r):=(row_g (fun r h O=>st_g d hd h O) (am (hdG r) (E+1)) (h.of (cV r))).nx
theorem jU{l:List Int}(h: ∀x∈l,in64 x):(txP (bx l)).length<=9000/\(inL (cp l).1/\inE (ei l).1)/\inL (cU l).1/\inE (gS l).1:=by have E:=rd_in h;have a:=sts_g (f:=0) 3 5 (by decide) (E.of (cV (rdG l)));have b:=xp_g 0 3 (r:=(cp l).2) a.i;have c:=sts_g (f:=1) 2 3 (by decide) (r:=(ei l).2) b.i;have d:=xp_g 1 3 (r:=(cU l).2) c.i;have k5:(rdG l).l.length<=60:=take60 l;have Z:=nx_le (rdG l);refine⟨?_,⟨a.n,b.n⟩,c.n,d.n⟩;have p1:=cC (n:=hdG (rdG l)) (m:=4) (by decide);have p2:=cC (n:=(hdG (rdG l)).tdiv 4) (m:=4) (by decide);have q1:=tx_le (n:=1+(am (hdG (rdG l)) 4:Int)) (by omega);have q2:=tx_le (n:=1+(am ((hdG (rdG l)).tdiv 4) 4:Int)) (by omega);have q3:(bV (cp l).1 [32,32]).length+100 *(cp l).2.l.length<=100 *(ae (rdG l)).l.length:=a.tx [32,32] (by decide);have q4:(bV (cU l).1 [32,32]).length+100 *(cU l).2.l.length<=100 *(ei l).2.l.length:=c.tx [32,32] (by decide);have q5:(fmE (ei l).1).length+60 *(ei l).2.l.length<=60 *(cp l).2.l.length+20:=b.tx;have q6:(fmE (gS l).1).length+60 *(gS l).2.l.length<=60 *(cU l).2.l.length+20:=d.tx;have r1:(cp l).2.l.length<=(ae (rdG l)).l.length:=a.le;have r2:(ei l).2.l.length<=(cp l).2.l.length:=b.le;have O:(jn [⟨[120]⟩,⟨[121]⟩]).length=4:=rfl;have T:(lcT [⟨[105]⟩,⟨[106]⟩]).length=9:=rfl;have U:(jn [⟨[110]⟩]).length=1:=rfl;have Y:(lcT [⟨[105]⟩]).length=6:=rfl;show((arT _++(arT _++[]))++(fnT _++(fnT _++[]))).length<=_;unfold arT fnT;simp only[a00,a01,a03];show _+1+1+(cS (1+(am (hdG (rdG l)) 4:Int))).length+_+_+_<=_;omega
theorem pg_chk{l:List Int}(h: ∀x∈l,in64 x):chk (bx l)=0:=by
 obtain⟨⟨a,b,c,d⟩,Z,h2,h3⟩:=lP h;have p1:=cC (n:=hdG (rdG l)) (m:=4) (by decide);have p2:=cC (n:=(hdG (rdG l)).tdiv 4) (m:=4) (by decide);have vb:=ge_b b (by decide);have vd:=ge_b d (by decide);have E:exL (bx l)=false:=by
  have hA:dgB ⟨⟨[102]⟩,[⟨[120]⟩,⟨[121]⟩],[⟨[105]⟩,⟨[106]⟩],(cp l).1,(ei l).1⟩=false:=by have:=a.ds 0;unfold dgB;show(decide (6<2)||decide (8<2)||decide (200<nSs (cp l).1)||decide (16<wSs (cp l).1)||decide (20<dSs (cp l).1 0)||db (cp l).1||decide (20<dpE (ei l).1))=false;rw[decide_eq_false (show ¬200<nSs (cp l).1 by omega),decide_eq_false (show ¬16<wSs (cp l).1 by omega),decide_eq_false (show ¬20<dSs (cp l).1 0 by omega),a.td,decide_eq_false (show ¬20<dpE (ei l).1 by omega)];rfl
  have hC:dgB ⟨⟨[103]⟩,[⟨[110]⟩],[⟨[105]⟩],(cU l).1,(gS l).1⟩=false:=by have:=c.ds 0;unfold dgB;show(decide (6<1)||decide (8<1)||decide (200<nSs (cU l).1)||decide (16<wSs (cU l).1)||decide (20<dSs (cU l).1 0)||db (cU l).1||decide (20<dpE (gS l).1))=false;rw[decide_eq_false (show ¬200<nSs (cU l).1 by omega),decide_eq_false (show ¬16<wSs (cU l).1 by omega),decide_eq_false (show ¬20<dSs (cU l).1 0 by omega),c.td,decide_eq_false (show ¬20<dpE (gS l).1 by omega)];rfl
  show(decide (4<2)||decide (8<2)||((decide ((1:Int)+(am (hdG (rdG l)) 4:Int)<1)||decide ((16:Int)<1+(am (hdG (rdG l)) 4:Int)))||((decide ((1:Int)+(am ((hdG (rdG l)).tdiv 4) 4:Int)<1)||decide ((16:Int)<1+(am ((hdG (rdG l)).tdiv 4) 4:Int)))||false))||(dgB ⟨⟨[102]⟩,[⟨[120]⟩,⟨[121]⟩],[⟨[105]⟩,⟨[106]⟩],(cp l).1,(ei l).1⟩||(dgB ⟨⟨[103]⟩,[⟨[110]⟩],[⟨[105]⟩],(cU l).1,(gS l).1⟩||false)))=false;rw[hA,hC,decide_eq_false (show ¬((1:Int)+(am (hdG (rdG l)) 4:Int)<1) by omega),decide_eq_false (show ¬((16:Int)<1+(am (hdG (rdG l)) 4:Int)) by omega),decide_eq_false (show ¬((1:Int)+(am ((hdG (rdG l)).tdiv 4) 4:Int)<1) by omega),decide_eq_false (show ¬((16:Int)<1+(am ((hdG (rdG l)).tdiv 4) 4:Int)) by omega)];rfl
 have O:wfP (bx l)=true:=by
  have hA:wfF ⟨⟨[102]⟩,[⟨[120]⟩,⟨[121]⟩],[⟨[105]⟩,⟨[106]⟩],(cp l).1,(ei l).1⟩=true:=by rw[wf_f];show(true&&cE (cp l).1&&wfE (ei l).1)=true;rw[a.wf,b.wf];rfl
  have hC:wfF ⟨⟨[103]⟩,[⟨[110]⟩],[⟨[105]⟩],(cU l).1,(gS l).1⟩=true:=by rw[wf_f];show(true&&cE (cU l).1&&wfE (gS l).1)=true;rw[c.wf,d.wf];rfl
  show(true&&(wfF ⟨⟨[102]⟩,[⟨[120]⟩,⟨[121]⟩],[⟨[105]⟩,⟨[106]⟩],(cp l).1,(ei l).1⟩&&(wfF ⟨⟨[103]⟩,[⟨[110]⟩],[⟨[105]⟩],(cU l).1,(gS l).1⟩&&true)))=true;rw[hA,hC];rfl
 have T:dupP (bx l)=false:=rfl;have U:(bx l).funs.all (dfF (bx l))=true:=by show((iH (aF 0) abG (bx l) (cp l).1&&dfE (aF 0) abG (ei l).1)&&((iH (aF 1) abG (bx l) (cU l).1&&dfE (aF 1) abG (gS l).1)&&true))=true;rw[a.df,b.df,c.df,d.df];rfl
 have Y:(bx l).funs.all (arF (bx l))=true:=by show(arSs (bx l) (cp l).1&&(arSs (bx l) (cU l).1&&true))=true;rw[a.ar,c.ar];rfl
 exact ck_0 E O T U Y
theorem lQ{l:List Int}(h: ∀x∈l,in64 x):GdP (bx l):=by
 obtain⟨⟨a,b,c,d⟩,_⟩:=lP h;obtain⟨_,E,O⟩:=jU h;have T:=cC (n:=hdG (rdG l)) (m:=4) (by decide);have U:=cC (n:=(hdG (rdG l)).tdiv 4) (m:=4) (by decide);refine⟨fun q Z=>?_,fun f Y=>?_⟩
 ·rcases a0j.1 Z with rfl|Z
  ·refine⟨(by decide:vnm [97]=true),?_,?_⟩
   ·show(1:Int)<=1+(am (hdG (rdG l)) 4:Int);omega
   show(1:Int)+(am (hdG (rdG l)) 4:Int)<=16;omega
  obtain rfl:=a0N.1 Z;refine⟨(by decide:vnm [98]=true),?_,?_⟩
  ·show(1:Int)<=1+(am ((hdG (rdG l)).tdiv 4) 4:Int);omega
  show(1:Int)+(am ((hdG (rdG l)).tdiv 4) 4:Int)<=16;omega
 rcases a0j.1 Y with rfl|Y
 ·refine⟨?_,E⟩;rw[wf_f];show(true&&cE (cp l).1&&wfE (ei l).1)=true;rw[a.wf,b.wf];rfl
 obtain rfl:=a0N.1 Y;refine⟨?_,O⟩;rw[wf_f];show(true&&cE (cU l).1&&wfE (gS l).1)=true;rw[c.wf,d.wf];rfl
end Go.Proofs.Ytapgbjedgcpffaa.gr
