/-
Plain laws: what the functions compute answers as the statement says. No condition beyond those that each statement names.
-/
import Derived.Test.YtkpgbdkkgcdhmaaGreatZPGA
import Derived.Test.YtkpgbdkkgcdhmaaGreatZPTB
noncomputable section
namespace Go.Proofs.YtkpgbdkkgcdhmaaGreat.gp
open Go.R w3 l1 pt ga ca cb cc cd ta tb
set_option linter.unusedVariables false
set_option linter.unusedSimpArgs false
theorem tx_le{n:Int}(h:in64 n):(bS n).length<=20:=by
 unfold bS;split
 ·rw[a03];have:=md 18 n.natAbs (by omega);omega
 have:=md 18 n.toNat (by omega);omega
def InR(r:RdT):Prop:= ∀x∈r.l,in64 x
theorem hd_in{r:RdT}(h:InR r):in64 (hdG r):=by
 unfold hdG;cases e:r.l with
 |nil=>decide
 |cons x l=>exact h x (by rw[e];exact a0i ..)
theorem InR.of{r q:RdT}(h:InR r)(s:q.l<:+r.l):InR q:=fun x A=>h x (s.subset A)
theorem nx_sf(r:RdT):(ao r).l<:+r.l:=List.tail_suffix _
def Nd:Nat->Nat
 |0=>1
 |d+1=>1+3 *Nd d
def Ld:Nat->Nat
 |0=>20
 |d+1=>3 *Ld d+12
theorem Nd_ge: ∀d,1<=Nd d
 |0=>a06 _
 |d+1=>by rw[Nd];omega
theorem Ld_ge: ∀d,20<=Ld d
 |0=>a06 _
 |d+1=>by have:=Ld_ge d;rw[Ld];omega
def inE:ExpT->Prop
 |⟨_,n,_,_,ks⟩=>in64 n/\inEs ks
where inEs:List ExpT->Prop
 | []=>True
 |e::l=>inE e/\inEs l
structure GE(f:Int)(d:Nat)(e:ExpT):Prop where
 nd:ndE e<=Nd d
 len:(fmE e).length<=Ld d
 dp:dpE e<=d
 wf:wfE e=true
 nb:nbE e
 df:dfE (bz f) abG e=true
 ie:inE e
theorem nm_mem(f n:Int):nmG f n∈bz f:=e7 (nm_lt f _)
theorem nm_ok(f:Int): ∀s∈bz f,s.b.length=1/\vnm s.b=true/\i4 (bz f) s.b=true:=by unfold bz;split<;>decide
theorem ab_mem(k:Nat)(h:k<2):abG.getD k default∈abG:=e7 h
theorem ab_ok: ∀s∈abG,s.b.length=1/\vnm s.b=true/\i4 abG s.b=true:=by decide
theorem j3(e:ExpT)(m:Bool)(t:List UInt8):(opF e m t).length<=t.length+2:=by
 unfold opF;split
 ·simp only[a01,a03,a05];omega
 omega
theorem opX_le(o:Int):(opX o).length<=3:=by
 unfold opX;have h: ∀s∈opTx,s.b.length<=3:=by decide
 rcases a0k (o-4).toNat opTx.length with k|k
 ·exact h _ (e7 k)
 rw[bM k];decide
section
variable {f:Int} {d:Nat}
theorem GE.num{n:Int}(h:in64 n):GE f d (mkE 1 n bV 0 []):=by
 have A:=Nd_ge d;have E:=Ld_ge d;refine⟨A,?_,a0B _,rfl,?_,rfl,?_⟩
 ·rw[fm_1 rfl];exact a0m (tx_le h) E
 ·show nbE ⟨1,n,bV,0,[]⟩;rw[nbE];exact⟨by decide,by rw[lX];trivial⟩
 show inE ⟨1,n,bV,0,[]⟩;rw[inE];exact⟨h,by rw[inE.inEs];trivial⟩
theorem GE.var{s:Str}(h:s∈bz f):GE f d (mkE 2 0 s 0 []):=by
 obtain⟨k1,k2,E⟩:=nm_ok f s h;have A:=Nd_ge d;have O:=Ld_ge d;refine⟨A,?_,a0B _,?_,?_,?_,?_⟩
 ·rw[fm_2 rfl];show s.b.length<=_;omega
 ·rw[wf_e];show(true&&vnm s.b)=true;rw[k2];rfl
 ·show nbE ⟨2,0,s,0,[]⟩;rw[nbE];exact⟨by omega,by rw[lX];trivial⟩
 ·rw[df_e];show(true&&(false||i4 (bz f) s.b)&&true)=true;rw[E];rfl
 show inE ⟨2,0,s,0,[]⟩;rw[inE];exact⟨by decide,by rw[inE.inEs];trivial⟩
variable {a b c:ExpT} (ha:GE f d a) (hb:GE f d b) (hc:GE f d c)
include ha
theorem GE.idx{s:Str}(h:s∈abG):GE f (d+1) (mkE 3 0 s 0 [a]):=by
 obtain⟨k1,k2,A⟩:=ab_ok s h;refine⟨?_,?_,?_,?_,?_,?_,?_⟩
 ·rw[nd_e];show 1+gQ [a]<=_;rw[gQ,gQ,Nd];have:=ha.nd;omega
 ·rw[fm_3 rfl rfl];show((s.b++[91])++fmE a++[93]).length<=_
  simp only[a01,a03,a05,Ld];have:=ha.len;omega
 ·rw[dp_e];show kI [a]<=_;rw[kI,kI];have:=ha.dp;omega
 ·rw[wf_e];show(fH [a]&&vnm s.b)=true;rw[fH,fH,ha.wf,k2];rfl
 ·show nbE ⟨3,0,s,0,[a]⟩;rw[nbE,lX,lX];exact⟨by omega,ha.nb,trivial⟩
 ·rw[df_e];show(i7 _ _ [a]&&true&&(false||i4 abG s.b))=true;rw[i7,i7,ha.df,A];rfl
 show inE ⟨3,0,s,0,[a]⟩;rw[inE,inE.inEs,inE.inEs];exact⟨by decide,ha.ie,trivial⟩
theorem GE.un{o:Int}(h:o=20\/o=21):GE f (d+1) (mkE 4 0 bV o [a]):=by
 refine⟨?_,?_,?_,?_,?_,?_,?_⟩
 ·rw[nd_e];show 1+gQ [a]<=_;rw[gQ,gQ,Nd];have:=ha.nd;omega
 ·have:=ha.len;rcases h with rfl|rfl
  ·rw[fm_n rfl rfl rfl];show([45]++opF a true (fmE a)).length<=_
   have:=j3 a true (fmE a);simp only[a01,a03,a05,Ld];omega
  rw[fm_t rfl rfl rfl];show([126]++opF a false (fmE a)).length<=_
  have:=j3 a false (fmE a);simp only[a01,a03,a05,Ld];omega
 ·rw[dp_e];show kI [a]<=_;rw[kI,kI];have:=ha.dp;omega
 ·rw[wf_e];rcases h with rfl|rfl<;>(show(fH [a]&&true)=true;rw[fH,fH,ha.wf];rfl)
 ·show nbE ⟨4,0,bV,o,[a]⟩;rw[nbE,lX,lX];exact⟨by decide,ha.nb,trivial⟩
 ·rw[df_e];show(i7 _ _ [a]&&true&&true)=true;rw[i7,i7,ha.df];rfl
 show inE ⟨4,0,bV,o,[a]⟩;rw[inE,inE.inEs,inE.inEs];exact⟨by decide,ha.ie,trivial⟩
include hb
theorem GE.bin{o:Int}(h:4<=o/\o<=18):GE f (d+1) (mkE 4 0 bV o [a,b]):=by
 refine⟨?_,?_,?_,?_,?_,?_,?_⟩
 ·rw[nd_e];show 1+gQ [a,b]<=_;rw[gQ,gQ,gQ,Nd];have:=ha.nd;have:=hb.nd;omega
 ·have A:=ha.len;have E:=hb.len
  rw[fm_b rfl (show o≠20 by omega) (show o≠21 by omega) rfl];show((((opF a false (fmE a)++[32])++opX o)++[32])++opF b false (fmE b)).length<=_;have:=j3 a false (fmE a);have:=j3 b false (fmE b);have:=opX_le o
  simp only[a01,a03,a05,Ld];omega
 ·rw[dp_e];show kI [a,b]<=_;rw[kI,kI,kI];have:=ha.dp;have:=hb.dp;omega
 ·rw[wf_e];show(fH [a,b]&&(true&&(binO o||false)))=true
  rw[fH,fH,fH,ha.wf,hb.wf,show binO o=true by unfold binO;rw[decide_eq_true h.1,decide_eq_true h.2];rfl];rfl
 ·show nbE ⟨4,0,bV,o,[a,b]⟩;rw[nbE,lX,lX,lX];exact⟨by decide,ha.nb,hb.nb,trivial⟩
 ·rw[df_e];show(i7 _ _ [a,b]&&true&&true)=true;rw[i7,i7,i7,ha.df,hb.df];rfl
 show inE ⟨4,0,bV,o,[a,b]⟩;rw[inE,inE.inEs,inE.inEs,inE.inEs];exact⟨by decide,ha.ie,hb.ie,trivial⟩
include hc
theorem GE.cond:GE f (d+1) (mkE 5 0 bV 0 [a,b,c]):=by
 refine⟨?_,?_,?_,?_,?_,?_,?_⟩
 ·rw[nd_e];show 1+gQ [a,b,c]<=_;rw[gQ,gQ,gQ,gQ,Nd];have:=ha.nd;have:=hb.nd;have:=hc.nd;omega
 ·have A:=ha.len;have E:=hb.len;have O:=hc.len
  rw[fm_5 rfl rfl];show((((opF a false (fmE a)++[32,63,32])++opF b false (fmE b))++[32,58,32])++opF c false (fmE c)).length<=_;have:=j3 a false (fmE a);have:=j3 b false (fmE b);have:=j3 c false (fmE c)
  simp only[a01,a03,a05,Ld];omega
 ·rw[dp_e];show kI [a,b,c]<=_;rw[kI,kI,kI,kI];have:=ha.dp;have:=hb.dp;have:=hc.dp;omega
 ·rw[wf_e];show(fH [a,b,c]&&true)=true;rw[fH,fH,fH,fH,ha.wf,hb.wf,hc.wf];rfl
 ·show nbE ⟨5,0,bV,0,[a,b,c]⟩;rw[nbE,lX,lX,lX,lX];exact⟨by decide,ha.nb,hb.nb,hc.nb,trivial⟩
 ·rw[df_e];show(i7 _ _ [a,b,c]&&true&&true)=true;rw[i7,i7,i7,i7,ha.df,hb.df,hc.df];rfl
 show inE ⟨5,0,bV,0,[a,b,c]⟩;rw[inE,inE.inEs,inE.inEs,inE.inEs,inE.inEs];exact⟨by decide,ha.ie,hb.ie,hc.ie,trivial⟩
end
theorem leaf_ok{f n:Int}{d:Nat}{b:Bool}(h:in64 n):GE f d (l4 f n b):=by
 unfold l4;split
 ·exact .var (nm_mem f n)
 exact .num (word_in h)
theorem ex_ok{f:Int}: ∀(d:Nat) {r:RdT},InR r->GE f d (ag f d r).1/\(ag f d r).2.l<:+(ao r).l/\(ag f d r).2.n=r.n
 |0,r,h=>⟨leaf_ok (hd_in h),List.suffix_refl _,rfl⟩
 |d+1,r,h=>by
  have Z:InR (ao r):=h.of (nx_sf r);obtain⟨O,A,T⟩:=ex_ok d Z;have A:=A.trans (nx_sf _);obtain⟨U,E,V⟩:=ex_ok d (Z.of A);have E:=(E.trans (nx_sf _)).trans A;obtain⟨c1,c2,Y⟩:=ex_ok d (Z.of E);have c2:=(c2.trans (nx_sf _)).trans E;rw[ag];split
  ·exact⟨leaf_ok (hd_in h),List.suffix_refl _,rfl⟩
  split
  ·exact⟨O.idx (ab_mem _ (Nat.mod_lt _ (by decide))),A,T⟩
  split
  ·exact⟨O.cond U c1,c2,Y.trans (V.trans T)⟩
  split
  ·refine⟨O.un ?_,A,T⟩;rcases Nat.mod_two_eq_zero_or_one (aF ((hdG r).tdiv 16) 1000) with e|e<;>rw[e]
   ·exact .inl rfl
   exact .inr rfl
  exact⟨O.bin U (by have:=Nat.mod_lt (aF ((hdG r).tdiv 16) 1000) (show 0<15 by decide);omega),E,V.trans T⟩
end Go.Proofs.YtkpgbdkkgcdhmaaGreat.gp
