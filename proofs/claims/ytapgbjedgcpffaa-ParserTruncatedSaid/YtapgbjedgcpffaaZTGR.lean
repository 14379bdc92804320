/-
Plain laws: what the functions compute answers as the statement says. No condition beyond those that each statement names.
-/
import Derived.Test.YtapgbjedgcpffaaZTGQ
import Derived.Test.YtapgbjedgcpffaaZTRU
noncomputable section
namespace Go.Proofs.Ytapgbjedgcpffaa.gr
open Go.R w3 l1 pt ga gb ca cc cd ta tb gp gq rt ru
set_option linter.unusedVariables false
set_option linter.unusedSimpArgs false
open cb hiding jl jn
theorem hd_nil{r:RdT}(h:r.l=[]):am (hdG r) 16=0:=by unfold hdG;rw[h];decide
theorem nx_lt{r:RdT}(h:r.l≠ []):(ae r).l.length+1=r.l.length:=by
 show r.l.tail.length+1=_;cases e:r.l with
 |nil=>exact absurd e h
 |cons x l=>rfl
theorem nx_le(r:RdT):(ae r).l.length<=r.l.length:=(da r).length_le
theorem mV{f n:Int}{b:Bool}(h:in64 n):(fmE (iE f n b)).length<=20:=(leaf_ok (f:=f) (d:=0) (b:=b) h).len
theorem m5{f:Int}: ∀(d:Nat) {r:RdT},InR r->(fmE (ad f d r).1).length+60 *(ad f d r).2.l.length<=60 *r.l.length+20
 |0,r,h=>by have T:(fmE (ad f 0 r).1).length<=20:=mV (hd_in h);have:=nx_le r;show _+60 *(ae r).l.length<=_;omega
 |d+1,r,h=>by
  have hn:InR (ae r):=h.of (da r);have Y:=m5 (f:=f) d hn;obtain⟨g1,E,_⟩:=iJ (f:=f) d hn;have E:=E.trans (da _);have Z:=m5 (f:=f) d (hn.of E);obtain⟨g2,O,_⟩:=iJ (f:=f) d (hn.of E);have O:=O.trans (da _);have c1:=m5 (f:=f) d ((hn.of E).of O);by_cases hl:r.l=[]
  ·have U:ad f (d+1) r=(iE f (hdG r) false,ae r):=by rw[ad,if_pos (by rw[hd_nil hl];decide)]
   rw[U];have T:(fmE (iE f (hdG r) false)).length<=20:=mV (hd_in h);have:=nx_le r;show(fmE (iE f (hdG r) false)).length+60 *(ae r).l.length<=_;omega
  have hx:=nx_lt hl;rw[ad];split
  ·have T:(fmE (iE f (hdG r) false)).length<=20:=mV (hd_in h);show(fmE (iE f (hdG r) false)).length+60 *(ae r).l.length<=_;omega
  split
  ·have k1:=(ab_ok _ (ab_mem _ (a1F (am ((hdG r).tdiv 16) 1000) (show 0<2 by decide)))).1;rw[fm_3 rfl rfl];show((_++[91])++fmE (ad f d (ae r)).1++[93]).length+60 *(ad f d (ae r)).2.l.length<=_;simp only[a00,a02,a03];show(abG.getD (am ((hdG r).tdiv 16) 1000%2) default).b.length+_+_+_+_<=_;omega
  split
  ·rw[fm_5 rfl rfl];show((((opF (ad f d (ae r)).1 false (fmE (ad f d (ae r)).1)++[32,63,32])++opF (ad f d (ad f d (ae r)).2).1 false (fmE (ad f d (ad f d (ae r)).2).1))++[32,58,32])++opF (ad f d (ad f d (ad f d (ae r)).2).2).1 false (fmE (ad f d (ad f d (ad f d (ae r)).2).2).1)).length+60 *(ad f d (ad f d (ad f d (ae r)).2).2).2.l.length<=_;have:=ft (ad f d (ae r)).1 false (fmE (ad f d (ae r)).1);have:=ft (ad f d (ad f d (ae r)).2).1 false (fmE (ad f d (ad f d (ae r)).2).1);have:=ft (ad f d (ad f d (ad f d (ae r)).2).2).1 false (fmE (ad f d (ad f d (ad f d (ae r)).2).2).1);simp only[a00,a02,a03];omega
  split
  ·rcases a1f (am ((hdG r).tdiv 16) 1000) with e|e<;>rw[e]
   ·rw[fm_n rfl rfl rfl];show([45]++opF (ad f d (ae r)).1 true (fmE (ad f d (ae r)).1)).length+60 *(ad f d (ae r)).2.l.length<=_;have:=ft (ad f d (ae r)).1 true (fmE (ad f d (ae r)).1);simp only[a00,a02,a03];omega
   rw[fm_t rfl rfl rfl];show([126]++opF (ad f d (ae r)).1 false (fmE (ad f d (ae r)).1)).length+60 *(ad f d (ae r)).2.l.length<=_;have:=ft (ad f d (ae r)).1 false (fmE (ad f d (ae r)).1);simp only[a00,a02,a03];omega
  have hm:=a1F (am ((hdG r).tdiv 16) 1000) (show 0<15 by decide);rw[fm_b rfl (show(4:Int)+_≠20 by omega) (show(4:Int)+_≠21 by omega) rfl];show((((opF (ad f d (ae r)).1 false (fmE (ad f d (ae r)).1)++[32])++opX (4+((am ((hdG r).tdiv 16) 1000%15:Nat):Int)))++[32])++opF (ad f d (ad f d (ae r)).2).1 false (fmE (ad f d (ad f d (ae r)).2).1)).length+60 *(ad f d (ad f d (ae r)).2).2.l.length<=_;have:=ft (ad f d (ae r)).1 false (fmE (ad f d (ae r)).1);have:=ft (ad f d (ad f d (ae r)).2).1 false (fmE (ad f d (ad f d (ae r)).2).1);have:=opX_le (4+((am ((hdG r).tdiv 16) 1000%15:Nat):Int));simp only[a00,a02,a03];omega
def Co(ind:Nat)(r q:RdT)(n:Nat):Prop:=InR q/\q.l.length<=r.l.length/\n+100 *q.l.length<=100 *r.l.length+ind
def TxS(d:Nat)(s:StmT)(m:Nat):Prop:= ∀ind:List UInt8,ind.length+2 *d<=10->(fmS s ind).length<=m
def TxL(d:Nat)(l:List StmT)(m:Nat):Prop:= ∀ind:List UInt8,ind.length+2 *d<=10->(bX l ind).length<=m
structure RwG(d:Nat)(r:RdT)(x:List StmT×RdT):Prop where
 i:InR x.2
 le:x.2.l.length<=r.l.length
 tx: ∀ind:List UInt8,ind.length+2 *d<=10->(bX x.1 ind).length+100 *x.2.l.length<=100 *r.l.length
 n:inL x.1
structure StG(d:Nat)(r:RdT)(x:StmT×RdT):Prop where
 i:InR x.2
 le:x.2.l.length+1<=r.l.length
 tx: ∀ind:List UInt8,ind.length+2 *d<=10->(fmS x.1 ind).length+100 *x.2.l.length<=100 *r.l.length
 n:lK x.1
theorem RwG.nil{d:Nat}{r:RdT}(h:InR r):RwG d r ([],r):=⟨h,a07 _,fun ind _=>by rw[bX];show 0+100 *r.l.length<=_;omega,by rw[inL];trivial⟩
theorem RwG.nx{d:Nat}{r:RdT}{x:List StmT×RdT}(h:RwG d (ae r) x):RwG d r x:=⟨h.i,a05 h.le (nx_le r),fun ind k=>a05 (h.tx ind k) (Nat.mul_le_mul_left 100 (nx_le r)),h.n⟩
theorem row_g{d:Nat}{f:Int}(hs: ∀r,InR r->r.l≠ []->StG d r (aM f d r)): ∀(k:Nat) {r:RdT},InR r->RwG d r (ku (aM f d) k r)
 |0,r,h=> .nil h
 |k+1,r,h=>by
  rw[ku];split
  ·exact .nil h
  next hl=>
  have a:=hs r h hl;have b:=row_g hs k a.i;refine⟨b.i,by have:=a.le;have:=b.le;show(ku (aM f d) k (aM f d r).2).2.l.length<=_;omega,fun ind q=>?_,?_⟩
  ·rw[bX,a00];have:=a.tx ind q;have:=b.tx ind q
   show _+_+100 *(ku (aM f d) k (aM f d r).2).2.l.length<=_;omega
  rw[inL];exact⟨a.n,b.n⟩
theorem nm_1(f n:Int):(nmG f n).b.length=1:=(nm_ok f _ (nm_mem f n)).1
structure XpG(r:RdT)(x:ExpT×RdT):Prop where
 i:InR x.2
 le:x.2.l.length<=r.l.length
 tx:(fmE x.1).length+60 *x.2.l.length<=60 *r.l.length+20
 n:inE x.1
theorem xp_g(f:Int)(d:Nat){r:RdT}(h:InR r):XpG r (ad f d r):=by obtain⟨O,E,_⟩:=iJ (f:=f) d h;have E:=E.trans (da _);exact⟨h.of E,E.length_le,m5 d h,O.ie⟩
theorem args_g{f:Int}: ∀(k:Nat) {r:RdT},InR r->k<=2->InR (bP f k r).2/\(bP f k r).2.l.length<=r.l.length/\(∀b,(jnR b (j8 (gy (bP f k r).1))).length+60 *(bP f k r).2.l.length<=60 *r.l.length+22 *k)/\inE.inEs (bP f k r).1
 |0,r,h,_=>⟨h,a07 _,fun b=>by show 0+60 *r.l.length<=_;omega,by show inE.inEs [];rw[inE.inEs];trivial⟩
 |k+1,r,h,hk=>by
  have a:=xp_g f 2 h;obtain⟨E,O,T,U⟩:=args_g (f:=f) k a.i (by omega);refine⟨E,a05 O a.le,fun b=>?_,?_⟩
  ·show(jnR b (j8 (gy ((ad f 2 r).1::(bP f k (ad f 2 r).2).1)))).length+_<=_;rw[gy];show(jnR b (⟨fmE (ad f 2 r).1⟩::j8 (gy (bP f k (ad f 2 r).2).1))).length+60 *(bP f k (ad f 2 r).2).2.l.length<=_;rw[jnR,a00,a00];have:=T true;have:=a.tx;have:(if b=true then([44,32]:List UInt8) else []).length<=2:=by cases b<;>decide
   show _+(fmE (ad f 2 r).1).length+_+_<=_;omega
  show inE.inEs ((ad f 2 r).1::_);rw[inE.inEs];exact⟨a.n,U⟩
theorem zE_in:inE zE:=by show inE ⟨0,0,bA,0,[]⟩;rw[inE];exact⟨by decide,by rw[inE.inEs];trivial⟩
theorem nls:inE.inEs []:=by rw[inE.inEs];trivial
theorem nll:inL []:=by rw[inL];trivial
theorem stB_g{f:Int}{d:Nat}{sub:Nat->RdT->List StmT×RdT}{flat:Bool}(hs: ∀m r,InR r->∀ind:List UInt8,ind.length+2 *d<=10->InR (sub m r).2/\(sub m r).2.l.length<=r.l.length/\(bX (sub m r).1 (ind++[32,32])).length+100 *(sub m r).2.l.length<=100 *r.l.length/\inL (sub m r).1){r:RdT}(hr:InR r)(hl:r.l≠ [])(hd:2 *d<=10):StG d r (gB sub flat f r):=by
 have hn:InR (ae r):=hr.of (da r);have hx:=nx_lt hl;have k1:=nm_1 f (hdG r);have k2:=(ab_ok _ (ab_mem _ (a1F (am ((hdG r).tdiv 16) 1000) (show 0<2 by decide)))).1;unfold gB;split
 ·have a:=xp_g f 4 hn;refine⟨a.i,by have:=a.le;show(ad f 4 (ae r)).2.l.length+1<=_;omega,fun ind q=>?_,?_⟩
  ·rw[fm_s,fk_1 rfl];show(ind++((nmG f (hdG r)).b++[32,61,32]++fmE (ad f 4 (ae r)).1++[59,10])).length+100 *(ad f 4 (ae r)).2.l.length<=_;have:=a.tx;have:=a.le
   simp only[a00,a02,a03];omega
  show lK ⟨_,_,_,_,_,_,_,_,_⟩;rw[lK];exact⟨zE_in,a.n,nls,nll,nll⟩
 split
 ·have a:=xp_g f 2 hn;have b:=xp_g f 3 a.i;refine⟨b.i,by have:=a.le;have:=b.le;show(ad f 3 (ad f 2 (ae r)).2).2.l.length+1<=_;omega,fun ind q=>?_,?_⟩
  ·rw[fm_s,fk_2 rfl];show(ind++((abG.getD (am ((hdG r).tdiv 16) 1000%2) default).b++[91]++fmE (ad f 2 (ae r)).1++[93,32,61,32]++fmE (ad f 3 (ad f 2 (ae r)).2).1++[59,10])).length+100 *(ad f 3 (ad f 2 (ae r)).2).2.l.length<=_;have:=a.tx;have:=a.le;have:=b.tx;have:=b.le
   simp only[a00,a02,a03];omega
  show lK ⟨_,_,_,_,_,_,_,_,_⟩;rw[lK];exact⟨a.n,b.n,nls,nll,nll⟩
 split
 ·have a:=xp_g f 3 hn;have t:=fun ind h=>hs 3 _ a.i ind h
  have E:=t [] (by show 0+_<=_;omega);have e:=fun ind h=>hs 2 _ E.1 ind h
  have O:=e [] (by show 0+_<=_;omega);refine⟨O.1,by have:=a.le;have:=E.2.1;have:=O.2.1;show(sub 2 (sub 3 (ad f 3 (ae r)).2).2).2.l.length+1<=_;omega,fun ind q=>?_,?_⟩
  ·rw[fm_s,fk_3 rfl];show(ind++([105,102,32,40]++fmE (ad f 3 (ae r)).1++[41,32,123,10]++bX (sub 3 (ad f 3 (ae r)).2).1 (ind++[32,32])++ind++[125]++(if 0<(sub 2 (sub 3 (ad f 3 (ae r)).2).2).1.length then [32,101,108,115,101,32,123,10]++bX (sub 2 (sub 3 (ad f 3 (ae r)).2).2).1 (ind++[32,32])++ind++[125] else [])++[10])).length+100 *(sub 2 (sub 3 (ad f 3 (ae r)).2).2).2.l.length<=_;have:=a.tx;have:=a.le;have:=(t ind q).2.2.1;have:=E.2.1;have:=(e ind q).2.2.1;have:=O.2.1
   have:(if 0<(sub 2 (sub 3 (ad f 3 (ae r)).2).2).1.length then [32,101,108,115,101,32,123,10]++bX (sub 2 (sub 3 (ad f 3 (ae r)).2).2).1 (ind++[32,32])++ind++[125] else []).length<=9+(bX (sub 2 (sub 3 (ad f 3 (ae r)).2).2).1 (ind++[32,32])).length+ind.length:=by
    split
    ·simp only[a00,a02,a03];omega
    exact a0n _
   simp only[a00,a02,a03]at *;omega
  show lK ⟨_,_,_,_,_,_,_,_,_⟩;rw[lK];exact⟨zE_in,a.n,nls,E.2.2.2,O.2.2.2⟩
 split
 ·have a:=xp_g f 3 (r:=incG (ae r)) hn;have t:=fun ind h=>hs 3 _ a.i ind h
  have E:=t [] (by show 0+_<=_;omega);have ea:(incG (ae r)).l.length=(ae r).l.length:=rfl;refine⟨E.1,by have:=a.le;have:=E.2.1;show(sub 3 (ad f 3 (incG (ae r))).2).2.l.length+1<=_;omega,fun ind q=>?_,?_⟩
  ·rw[fm_s,fk_4 rfl];show(ind++([119,104,105,108,101,32,40]++fmE (ad f 3 (incG (ae r))).1++[41,32,123,10]++bX (sub 3 (ad f 3 (incG (ae r))).2).1 (ind++[32,32])++ind++[125,10])).length+100 *(sub 3 (ad f 3 (incG (ae r))).2).2.l.length<=_;have:=a.tx;have:=a.le;have:=(t ind q).2.2.1;have:=E.2.1
   simp only[a00,a02,a03]at *;omega
  show lK ⟨_,_,_,_,_,_,_,_,_⟩;rw[lK];exact⟨zE_in,a.n,nls,E.2.2.2,nll⟩
 split
 ·have a:=xp_g f 3 hn;refine⟨a.i,by have:=a.le;show(ad f 3 (ae r)).2.l.length+1<=_;omega,fun ind q=>?_,?_⟩
  ·rw[fm_s,fk_5 rfl];show(ind++([111,117,116,32]++fmE (ad f 3 (ae r)).1++[59,10])).length+100 *(ad f 3 (ae r)).2.l.length<=_;have:=a.tx;have:=a.le
   simp only[a00,a02,a03];omega
  show lK ⟨_,_,_,_,_,_,_,_,_⟩;rw[lK];exact⟨zE_in,a.n,nls,nll,nll⟩
 split
 ·obtain⟨T,Z,U,Y⟩:=args_g (f:=f) (2-am ((hdG r).tdiv 16) 1000%2) hn (by omega);have k3:(([⟨[102]⟩,⟨[103]⟩]:List Str).getD (am ((hdG r).tdiv 16) 1000%2) default).b.length=1:=by rcases a1f (am ((hdG r).tdiv 16) 1000) with e|e<;>rw[e]<;>rfl
  refine⟨T,by show(bP f (2-am ((hdG r).tdiv 16) 1000%2) (ae r)).2.l.length+1<=_;omega,fun ind q=>?_,?_⟩
  ·rw[fm_s,fk_6 (show(6:Int)≠1 by decide) (show(6:Int)≠2 by decide) (show(6:Int)≠5 by decide) (show(6:Int)≠7 by decide) (show(6:Int)≠4 by decide) (show(6:Int)≠3 by decide)];show(ind++((nmG f (hdG r)).b++[32,61,32]++(([⟨[102]⟩,⟨[103]⟩]:List Str).getD (am ((hdG r).tdiv 16) 1000%2) default).b++[40]++jn (j8 (gy (bP f (2-am ((hdG r).tdiv 16) 1000%2) (ae r)).1))++[41,59,10])).length+100 *(bP f (2-am ((hdG r).tdiv 16) 1000%2) (ae r)).2.l.length<=_;have:=U false;have e:(jn (j8 (gy (bP f (2-am ((hdG r).tdiv 16) 1000%2) (ae r)).1))).length=(jnR false (j8 (gy (bP f (2-am ((hdG r).tdiv 16) 1000%2) (ae r)).1))).length:=rfl;simp only[a00,a02,a03];omega
  show lK ⟨_,_,_,_,_,_,_,_,_⟩;rw[lK];exact⟨zE_in,zE_in,Y,nll,nll⟩
 have hq:=cI (n:=(hdG r).tdiv 16) (m:=1000) (by decide);refine⟨hn,by show(ae r).l.length+1<=_;omega,fun ind q=>?_,?_⟩
 ·rw[fm_s,fk_7 rfl];have:=tx_le (n:=((am ((hdG r).tdiv 16) 1000:Nat):Int)) (by omega);show(ind++([116,114,97,112,32]++cS ((am ((hdG r).tdiv 16) 1000:Nat):Int)++[59,10])).length+100 *(ae r).l.length<=_;simp only[a00,a02,a03];omega
 show lK ⟨_,_,_,_,_,_,_,_,_⟩;rw[lK];exact⟨zE_in,zE_in,nls,nll,nll⟩
theorem sub_g{d:Nat}{f:Int}(hs: ∀r,InR r->r.l≠ []->StG d r (aM f d r))(m:Nat){q:RdT}(E:InR q):RwG d q (subG (aM f d) m q):=(row_g hs (am (hdG q) (m+1)) (E.of (da q))).nx
theorem RwG.at_{d:Nat}{r:RdT}{x:List StmT×RdT}(a:RwG d r x)(ind:List UInt8)(h:ind.length+2 *(d+1)<=10):InR x.2/\x.2.l.length<=r.l.length/\(bX x.1 (ind++[32,32])).length+100 *x.2.l.length<=100 *r.l.length/\inL x.1:=
 ⟨a.i,a.le,a.tx _ (by rw[a00];show ind.length+2+_<=_;omega),a.n⟩
theorem st_g{f:Int}: ∀(d:Nat),2 *d<=10->∀{r:RdT},InR r->r.l≠ []->StG d r (aM f d r)
 |0,hd,r,h,E=>stB_g (fun m r h ind _=>⟨h,a07 _,by rw[bX];show 0+100 *r.l.length<=_;omega,nll⟩) h E hd
 |d+1,hd,r,h,E=>stB_g (d:=d+1) (fun m q O ind hi=>(sub_g (fun r h E=>st_g d (by omega) h E) m O).at_ ind hi) h E hd
theorem sts_g{f:Int}(d E:Nat)(hd:2 *d<=10){r:RdT}(h:InR r):RwG d r (az f d E r):=(row_g (fun r h O=>st_g d hd h O) (am (hdG r) (E+1)) (h.of (da r))).nx
theorem pg_text{l:List Int}(h: ∀x∈l,in64 x):(txP (bo l)).length<=9000/\(inL (cu l).1/\inE (eI l).1)/\inL (cZ l).1/\inE (iz l).1:=by have E:=rd_in h;have a:=sts_g (f:=0) 3 5 (by decide) (E.of (da (rdG l)));have b:=xp_g 0 3 (r:=(cu l).2) a.i;have c:=sts_g (f:=1) 2 3 (by decide) (r:=(eI l).2) b.i;have d:=xp_g 1 3 (r:=(cZ l).2) c.i;have k5:(rdG l).l.length<=60:=take60 l;have Z:=nx_le (rdG l);refine⟨?_,⟨a.n,b.n⟩,c.n,d.n⟩;have p1:=cI (n:=hdG (rdG l)) (m:=4) (by decide);have p2:=cI (n:=(hdG (rdG l)).tdiv 4) (m:=4) (by decide);have q1:=tx_le (n:=1+(am (hdG (rdG l)) 4:Int)) (by omega);have q2:=tx_le (n:=1+(am ((hdG (rdG l)).tdiv 4) 4:Int)) (by omega);have q3:(bX (cu l).1 [32,32]).length+100 *(cu l).2.l.length<=100 *(ae (rdG l)).l.length:=a.tx [32,32] (by decide);have q4:(bX (cZ l).1 [32,32]).length+100 *(cZ l).2.l.length<=100 *(eI l).2.l.length:=c.tx [32,32] (by decide);have q5:(fmE (eI l).1).length+60 *(eI l).2.l.length<=60 *(cu l).2.l.length+20:=b.tx;have q6:(fmE (iz l).1).length+60 *(iz l).2.l.length<=60 *(cZ l).2.l.length+20:=d.tx;have r1:(cu l).2.l.length<=(ae (rdG l)).l.length:=a.le;have r2:(eI l).2.l.length<=(cu l).2.l.length:=b.le;have O:(jn [⟨[120]⟩,⟨[121]⟩]).length=4:=rfl;have T:(lcT [⟨[105]⟩,⟨[106]⟩]).length=9:=rfl;have U:(jn [⟨[110]⟩]).length=1:=rfl;have Y:(lcT [⟨[105]⟩]).length=6:=rfl;show((arT _++(arT _++[]))++(fnT _++(fnT _++[]))).length<=_;unfold arT fnT;simp only[a00,a02,a03];show _+1+1+(cS (1+(am (hdG (rdG l)) 4:Int))).length+_+_+_<=_;omega
theorem pg_chk{l:List Int}(h: ∀x∈l,in64 x):chk (bo l)=0:=by
 obtain⟨⟨a,b,c,d⟩,Z,h2,h3⟩:=mP h;have p1:=cI (n:=hdG (rdG l)) (m:=4) (by decide);have p2:=cI (n:=(hdG (rdG l)).tdiv 4) (m:=4) (by decide);have vb:=ge_b b (by decide);have vd:=ge_b d (by decide);have E:exL (bo l)=false:=by
  have hA:dgB ⟨⟨[102]⟩,[⟨[120]⟩,⟨[121]⟩],[⟨[105]⟩,⟨[106]⟩],(cu l).1,(eI l).1⟩=false:=by have:=a.ds 0;unfold dgB;show(decide (6<2)||decide (8<2)||decide (200<nSs (cu l).1)||decide (16<wSs (cu l).1)||decide (20<dSs (cu l).1 0)||dl (cu l).1||decide (20<dpE (eI l).1))=false;rw[decide_eq_false (show ¬200<nSs (cu l).1 by omega),decide_eq_false (show ¬16<wSs (cu l).1 by omega),decide_eq_false (show ¬20<dSs (cu l).1 0 by omega),a.td,decide_eq_false (show ¬20<dpE (eI l).1 by omega)];rfl
  have hC:dgB ⟨⟨[103]⟩,[⟨[110]⟩],[⟨[105]⟩],(cZ l).1,(iz l).1⟩=false:=by have:=c.ds 0;unfold dgB;show(decide (6<1)||decide (8<1)||decide (200<nSs (cZ l).1)||decide (16<wSs (cZ l).1)||decide (20<dSs (cZ l).1 0)||dl (cZ l).1||decide (20<dpE (iz l).1))=false;rw[decide_eq_false (show ¬200<nSs (cZ l).1 by omega),decide_eq_false (show ¬16<wSs (cZ l).1 by omega),decide_eq_false (show ¬20<dSs (cZ l).1 0 by omega),c.td,decide_eq_false (show ¬20<dpE (iz l).1 by omega)];rfl
  show(decide (4<2)||decide (8<2)||((decide ((1:Int)+(am (hdG (rdG l)) 4:Int)<1)||decide ((16:Int)<1+(am (hdG (rdG l)) 4:Int)))||((decide ((1:Int)+(am ((hdG (rdG l)).tdiv 4) 4:Int)<1)||decide ((16:Int)<1+(am ((hdG (rdG l)).tdiv 4) 4:Int)))||false))||(dgB ⟨⟨[102]⟩,[⟨[120]⟩,⟨[121]⟩],[⟨[105]⟩,⟨[106]⟩],(cu l).1,(eI l).1⟩||(dgB ⟨⟨[103]⟩,[⟨[110]⟩],[⟨[105]⟩],(cZ l).1,(iz l).1⟩||false)))=false;rw[hA,hC,decide_eq_false (show ¬((1:Int)+(am (hdG (rdG l)) 4:Int)<1) by omega),decide_eq_false (show ¬((16:Int)<1+(am (hdG (rdG l)) 4:Int)) by omega),decide_eq_false (show ¬((1:Int)+(am ((hdG (rdG l)).tdiv 4) 4:Int)<1) by omega),decide_eq_false (show ¬((16:Int)<1+(am ((hdG (rdG l)).tdiv 4) 4:Int)) by omega)];rfl
 have O:wfP (bo l)=true:=by
  have hA:wfF ⟨⟨[102]⟩,[⟨[120]⟩,⟨[121]⟩],[⟨[105]⟩,⟨[106]⟩],(cu l).1,(eI l).1⟩=true:=by rw[wf_f];show(true&&cP (cu l).1&&wfE (eI l).1)=true;rw[a.wf,b.wf];rfl
  have hC:wfF ⟨⟨[103]⟩,[⟨[110]⟩],[⟨[105]⟩],(cZ l).1,(iz l).1⟩=true:=by rw[wf_f];show(true&&cP (cZ l).1&&wfE (iz l).1)=true;rw[c.wf,d.wf];rfl
  show(true&&(wfF ⟨⟨[102]⟩,[⟨[120]⟩,⟨[121]⟩],[⟨[105]⟩,⟨[106]⟩],(cu l).1,(eI l).1⟩&&(wfF ⟨⟨[103]⟩,[⟨[110]⟩],[⟨[105]⟩],(cZ l).1,(iz l).1⟩&&true)))=true;rw[hA,hC];rfl
 have T:dupP (bo l)=false:=rfl;have U:(bo l).funs.all (dfF (bo l))=true:=by show((jD (aE 0) abG (bo l) (cu l).1&&dfE (aE 0) abG (eI l).1)&&((jD (aE 1) abG (bo l) (cZ l).1&&dfE (aE 1) abG (iz l).1)&&true))=true;rw[a.df,b.df,c.df,d.df];rfl
 have Y:(bo l).funs.all (arF (bo l))=true:=by show(arSs (bo l) (cu l).1&&(arSs (bo l) (cZ l).1&&true))=true;rw[a.ar,c.ar];rfl
 exact ck_0 E O T U Y
theorem pg_gd{l:List Int}(h: ∀x∈l,in64 x):GdP (bo l):=by
 obtain⟨⟨a,b,c,d⟩,_⟩:=mP h;obtain⟨_,E,O⟩:=pg_text h;have T:=cI (n:=hdG (rdG l)) (m:=4) (by decide);have U:=cI (n:=(hdG (rdG l)).tdiv 4) (m:=4) (by decide);refine⟨fun q Z=>?_,fun f Y=>?_⟩
 ·rcases a0m.1 Z with rfl|Z
  ·refine⟨(by decide:vnm [97]=true),?_,?_⟩
   ·show(1:Int)<=1+(am (hdG (rdG l)) 4:Int);omega
   show(1:Int)+(am (hdG (rdG l)) 4:Int)<=16;omega
  obtain rfl:=a0R.1 Z;refine⟨(by decide:vnm [98]=true),?_,?_⟩
  ·show(1:Int)<=1+(am ((hdG (rdG l)).tdiv 4) 4:Int);omega
  show(1:Int)+(am ((hdG (rdG l)).tdiv 4) 4:Int)<=16;omega
 rcases a0m.1 Y with rfl|Y
 ·refine⟨?_,E⟩;rw[wf_f];show(true&&cP (cu l).1&&wfE (eI l).1)=true;rw[a.wf,b.wf];rfl
 obtain rfl:=a0R.1 Y;refine⟨?_,O⟩;rw[wf_f];show(true&&cP (cZ l).1&&wfE (iz l).1)=true;rw[c.wf,d.wf];rfl
end Go.Proofs.Ytapgbjedgcpffaa.gr
