/-
Plain laws: what the functions compute answers as the statement says. No condition beyond those that each statement names.
-/
import Derived.Test.YtapgbjedgcpffaaZQGA
import Derived.Test.YtapgbjedgcpffaaZQTB
noncomputable section
namespace Go.Proofs.Ytapgbjedgcpffaa.gp
open Go.R w3 l1 pt ga ca cb cc cd ta tb
set_option linter.unusedVariables false
set_option linter.unusedSimpArgs false
theorem tx_le{n:Int}(h:in64 n):(cS n).length<=20:=by
 unfold cS;split
 ·rw[a01];have:=ma 18 n.natAbs (by omega);omega
 have:=ma 18 n.toNat (by omega);omega
def InR(r:RdT):Prop:= ∀x∈r.l,in64 x
theorem hd_in{r:RdT}(h:InR r):in64 (hdG r):=by
 unfold hdG;cases e:r.l with
 |nil=>decide
 |cons x l=>exact h x (by rw[e];exact a0s ..)
theorem InR.of{r q:RdT}(h:InR r)(s:q.l<:+r.l):InR q:=fun x E=>h x (s.subset E)
theorem cV(r:RdT):(ae r).l<:+r.l:=List.tail_suffix _
def Nd:Nat->Nat
 |0=>1
 |d+1=>1+3 *Nd d
def Ld:Nat->Nat
 |0=>20
 |d+1=>3 *Ld d+12
theorem Nd_ge: ∀d,1<=Nd d
 |0=>a06 _
 |d+1=>by rw[Nd];omega
theorem Ld_ge: ∀d,20<=Ld d
 |0=>a06 _
 |d+1=>by have:=Ld_ge d;rw[Ld];omega
def inE:ExpT->Prop
 |⟨_,n,_,_,ks⟩=>in64 n/\inEs ks
where inEs:List ExpT->Prop
 | []=>True
 |e::l=>inE e/\inEs l
structure GE(f:Int)(d:Nat)(e:ExpT):Prop where
 nd:ndE e<=Nd d
 len:(fmE e).length<=Ld d
 dp:dpE e<=d
 wf:wfE e=true
 nb:nbE e
 df:dfE (aF f) abG e=true
 ie:inE e
theorem nm_mem(f n:Int):nmG f n∈aF f:=cQ (nm_lt f _)
theorem nm_ok(f:Int): ∀s∈aF f,s.b.length=1/\vnm s.b=true/\dz (aF f) s.b=true:=by unfold aF;split<;>decide
theorem ab_mem(k:Nat)(h:k<2):abG.getD k default∈abG:=cQ h
theorem ab_ok: ∀s∈abG,s.b.length=1/\vnm s.b=true/\dz abG s.b=true:=by decide
theorem eJ(e:ExpT)(m:Bool)(t:List UInt8):(opF e m t).length<=t.length+2:=by
 unfold opF;split
 ·simp only[a00,a01,a03];omega
 omega
theorem opX_le(o:Int):(opX o).length<=3:=by
 unfold opX;have h: ∀s∈opTx,s.b.length<=3:=by decide
 rcases a0k (o-4).toNat opTx.length with k|k
 ·exact h _ (cQ k)
 rw[bY k];decide
section
variable {f:Int} {d:Nat}
theorem GE.num{n:Int}(h:in64 n):GE f d (mkE 1 n bD 0 []):=by
 have E:=Nd_ge d;have O:=Ld_ge d;refine⟨E,?_,a0p _,rfl,?_,rfl,?_⟩
 ·rw[fm_1 rfl];exact a0h (tx_le h) O
 ·show nbE ⟨1,n,bD,0,[]⟩;rw[nbE];exact⟨by decide,by rw[fK];trivial⟩
 show inE ⟨1,n,bD,0,[]⟩;rw[inE];exact⟨h,by rw[inE.inEs];trivial⟩
theorem GE.var{s:Str}(h:s∈aF f):GE f d (mkE 2 0 s 0 []):=by
 obtain⟨k1,k2,O⟩:=nm_ok f s h;have E:=Nd_ge d;have T:=Ld_ge d;refine⟨E,?_,a0p _,?_,?_,?_,?_⟩
 ·rw[fm_2 rfl];show s.b.length<=_;omega
 ·rw[wf_e];show(true&&vnm s.b)=true;rw[k2];rfl
 ·show nbE ⟨2,0,s,0,[]⟩;rw[nbE];exact⟨by omega,by rw[fK];trivial⟩
 ·rw[df_e];show(true&&(false||dz (aF f) s.b)&&true)=true;rw[O];rfl
 show inE ⟨2,0,s,0,[]⟩;rw[inE];exact⟨by decide,by rw[inE.inEs];trivial⟩
variable {a b c:ExpT} (ha:GE f d a) (hb:GE f d b) (hc:GE f d c)
include ha
theorem GE.idx{s:Str}(h:s∈abG):GE f (d+1) (mkE 3 0 s 0 [a]):=by
 obtain⟨k1,k2,E⟩:=ab_ok s h;refine⟨?_,?_,?_,?_,?_,?_,?_⟩
 ·rw[nd_e];show 1+gx [a]<=_;rw[gx,gx,Nd];have:=ha.nd;omega
 ·rw[fm_3 rfl rfl];show((s.b++[91])++fmE a++[93]).length<=_
  simp only[a00,a01,a03,Ld];have:=ha.len;omega
 ·rw[dp_e];show i7 [a]<=_;rw[i7,i7];have:=ha.dp;omega
 ·rw[wf_e];show(dO [a]&&vnm s.b)=true;rw[dO,dO,ha.wf,k2];rfl
 ·show nbE ⟨3,0,s,0,[a]⟩;rw[nbE,fK,fK];exact⟨by omega,ha.nb,trivial⟩
 ·rw[df_e];show(eY _ _ [a]&&true&&(false||dz abG s.b))=true;rw[eY,eY,ha.df,E];rfl
 show inE ⟨3,0,s,0,[a]⟩;rw[inE,inE.inEs,inE.inEs];exact⟨by decide,ha.ie,trivial⟩
theorem GE.un{o:Int}(h:o=20\/o=21):GE f (d+1) (mkE 4 0 bD o [a]):=by
 refine⟨?_,?_,?_,?_,?_,?_,?_⟩
 ·rw[nd_e];show 1+gx [a]<=_;rw[gx,gx,Nd];have:=ha.nd;omega
 ·have:=ha.len;rcases h with rfl|rfl
  ·rw[fm_n rfl rfl rfl];show([45]++opF a true (fmE a)).length<=_
   have:=eJ a true (fmE a);simp only[a00,a01,a03,Ld];omega
  rw[fm_t rfl rfl rfl];show([126]++opF a false (fmE a)).length<=_
  have:=eJ a false (fmE a);simp only[a00,a01,a03,Ld];omega
 ·rw[dp_e];show i7 [a]<=_;rw[i7,i7];have:=ha.dp;omega
 ·rw[wf_e];rcases h with rfl|rfl<;>(show(dO [a]&&true)=true;rw[dO,dO,ha.wf];rfl)
 ·show nbE ⟨4,0,bD,o,[a]⟩;rw[nbE,fK,fK];exact⟨by decide,ha.nb,trivial⟩
 ·rw[df_e];show(eY _ _ [a]&&true&&true)=true;rw[eY,eY,ha.df];rfl
 show inE ⟨4,0,bD,o,[a]⟩;rw[inE,inE.inEs,inE.inEs];exact⟨by decide,ha.ie,trivial⟩
include hb
theorem GE.bin{o:Int}(h:4<=o/\o<=18):GE f (d+1) (mkE 4 0 bD o [a,b]):=by
 refine⟨?_,?_,?_,?_,?_,?_,?_⟩
 ·rw[nd_e];show 1+gx [a,b]<=_;rw[gx,gx,gx,Nd];have:=ha.nd;have:=hb.nd;omega
 ·have E:=ha.len;have O:=hb.len
  rw[fm_b rfl (show o≠20 by omega) (show o≠21 by omega) rfl];show((((opF a false (fmE a)++[32])++opX o)++[32])++opF b false (fmE b)).length<=_;have:=eJ a false (fmE a);have:=eJ b false (fmE b);have:=opX_le o
  simp only[a00,a01,a03,Ld];omega
 ·rw[dp_e];show i7 [a,b]<=_;rw[i7,i7,i7];have:=ha.dp;have:=hb.dp;omega
 ·rw[wf_e];show(dO [a,b]&&(true&&(binO o||false)))=true
  rw[dO,dO,dO,ha.wf,hb.wf,show binO o=true by unfold binO;rw[decide_eq_true h.1,decide_eq_true h.2];rfl];rfl
 ·show nbE ⟨4,0,bD,o,[a,b]⟩;rw[nbE,fK,fK,fK];exact⟨by decide,ha.nb,hb.nb,trivial⟩
 ·rw[df_e];show(eY _ _ [a,b]&&true&&true)=true;rw[eY,eY,eY,ha.df,hb.df];rfl
 show inE ⟨4,0,bD,o,[a,b]⟩;rw[inE,inE.inEs,inE.inEs,inE.inEs];exact⟨by decide,ha.ie,hb.ie,trivial⟩
include hc
theorem GE.cond:GE f (d+1) (mkE 5 0 bD 0 [a,b,c]):=by
 refine⟨?_,?_,?_,?_,?_,?_,?_⟩
 ·rw[nd_e];show 1+gx [a,b,c]<=_;rw[gx,gx,gx,gx,Nd];have:=ha.nd;have:=hb.nd;have:=hc.nd;omega
 ·have E:=ha.len;have O:=hb.len;have T:=hc.len
  rw[fm_5 rfl rfl];show((((opF a false (fmE a)++[32,63,32])++opF b false (fmE b))++[32,58,32])++opF c false (fmE c)).length<=_;have:=eJ a false (fmE a);have:=eJ b false (fmE b);have:=eJ c false (fmE c)
  simp only[a00,a01,a03,Ld];omega
 ·rw[dp_e];show i7 [a,b,c]<=_;rw[i7,i7,i7,i7];have:=ha.dp;have:=hb.dp;have:=hc.dp;omega
 ·rw[wf_e];show(dO [a,b,c]&&true)=true;rw[dO,dO,dO,dO,ha.wf,hb.wf,hc.wf];rfl
 ·show nbE ⟨5,0,bD,0,[a,b,c]⟩;rw[nbE,fK,fK,fK,fK];exact⟨by decide,ha.nb,hb.nb,hc.nb,trivial⟩
 ·rw[df_e];show(eY _ _ [a,b,c]&&true&&true)=true;rw[eY,eY,eY,eY,ha.df,hb.df,hc.df];rfl
 show inE ⟨5,0,bD,0,[a,b,c]⟩;rw[inE,inE.inEs,inE.inEs,inE.inEs,inE.inEs];exact⟨by decide,ha.ie,hb.ie,hc.ie,trivial⟩
end
theorem leaf_ok{f n:Int}{d:Nat}{b:Bool}(h:in64 n):GE f d (gX f n b):=by
 unfold gX;split
 ·exact .var (nm_mem f n)
 exact .num (word_in h)
theorem g0{f:Int}: ∀(d:Nat) {r:RdT},InR r->GE f d (ad f d r).1/\(ad f d r).2.l<:+(ae r).l/\(ad f d r).2.n=r.n
 |0,r,h=>⟨leaf_ok (hd_in h),a1I _,rfl⟩
 |d+1,r,h=>by
  have hn:InR (ae r):=h.of (cV r);obtain⟨T,E,U⟩:=g0 d hn;have E:=E.trans (cV _);obtain⟨Y,O,Z⟩:=g0 d (hn.of E);have O:=(O.trans (cV _)).trans E;obtain⟨c1,c2,c3⟩:=g0 d (hn.of O);have c2:=(c2.trans (cV _)).trans O;rw[ad];split
  ·exact⟨leaf_ok (hd_in h),a1I _,rfl⟩
  split
  ·exact⟨T.idx (ab_mem _ (a1C _ (by decide))),E,U⟩
  split
  ·exact⟨T.cond Y c1,c2,c3.trans (Z.trans U)⟩
  split
  ·refine⟨T.un ?_,E,U⟩;rcases a1c (am ((hdG r).tdiv 16) 1000) with e|e<;>rw[e]
   ·exact .inl rfl
   exact .inr rfl
  exact⟨T.bin Y (by have:=a1C (am ((hdG r).tdiv 16) 1000) (show 0<15 by decide);omega),O,Z.trans U⟩
end Go.Proofs.Ytapgbjedgcpffaa.gp
