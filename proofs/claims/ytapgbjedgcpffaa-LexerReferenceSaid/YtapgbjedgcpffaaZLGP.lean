/-
Plain laws: what the functions compute answers as the statement says. No condition beyond those that each statement names.
-/
import Derived.Test.YtapgbjedgcpffaaZLGB
import Derived.Test.YtapgbjedgcpffaaZLTB
noncomputable section
namespace Go.Proofs.Ytapgbjedgcpffaa.gp
open Go.R w3 l1 pt ga gb ca cb cc cd ta tb
set_option linter.unusedVariables false
set_option linter.unusedSimpArgs false
theorem tx_le{n:Int}(h:in64 n):(ev n).length<=20:=by
 unfold ev;split
 ·rw[a01];have:=dec_len 18 n.natAbs (by omega);omega
 have:=dec_len 18 n.toNat (by omega);omega
def InR(r:RdT):Prop:= ∀x∈r.l,in64 x
theorem hd_in{r:RdT}(h:InR r):in64 (hdG r):=by
 unfold hdG;cases e:r.l with
 |nil=>decide
 |cons x l=>exact h x (by rw[e];exact a1e ..)
theorem InR.of{r q:RdT}(h:InR r)(s:q.l<:+r.l):InR q:=fun x E=>h x (s.subset E)
theorem ej(r:RdT):(ae r).l<:+r.l:=List.tail_suffix _
def Nd:Nat->Nat
 |0=>1
 |d+1=>1+3 *Nd d
def Ld:Nat->Nat
 |0=>20
 |d+1=>3 *Ld d+12
theorem Nd_ge: ∀d,1<=Nd d
 |0=>a07 _
 |d+1=>by rw[Nd];omega
theorem Ld_ge: ∀d,20<=Ld d
 |0=>a07 _
 |d+1=>by have:=Ld_ge d;rw[Ld];omega
structure GE(f:Int)(d:Nat)(e:ExpT):Prop where
 nd:ndE e<=Nd d
 len:(fmE e).length<=Ld d
 dp:dpE e<=d
 wf:wfE e=true
 nb:nbE e
 df:dfE (aO f) abG e=true
theorem nm_mem(f n:Int):nmG f n∈aO f:=dN (aA f _)
theorem nm_ok(f:Int): ∀s∈aO f,s.b.length=1/\vnm s.b=true/\de (aO f) s.b=true:=by unfold aO;split<;>decide
theorem ab_mem(k:Nat)(h:k<2):abG.getD k default∈abG:=dN h
theorem ab_ok: ∀s∈abG,s.b.length=1/\vnm s.b=true/\de abG s.b=true:=by decide
theorem jC(e:ExpT)(m:Bool)(t:List UInt8):(opF e m t).length<=t.length+2:=by
 unfold opF;split
 ·simp only[a00,a01,a02];omega
 omega
theorem opX_le(o:Int):(opX o).length<=3:=by
 unfold opX;have h: ∀s∈opTx,s.b.length<=3:=by decide
 rcases a0k (o-4).toNat opTx.length with k|k
 ·exact h _ (dN k)
 rw[dz k];decide
section
variable {f:Int} {d:Nat}
theorem GE.num{n:Int}(h:in64 n):GE f d (mkE 1 n dK 0 []):=by
 have E:=Nd_ge d;have O:=Ld_ge d;refine⟨E,?_,a0o _,rfl,?_,rfl⟩
 ·rw[fm_1 rfl];exact a0e (tx_le h) O
 show nbE ⟨1,n,dK,0,[]⟩;rw[nbE];exact⟨by decide,by rw[fc];trivial⟩
theorem GE.var{s:Str}(h:s∈aO f):GE f d (mkE 2 0 s 0 []):=by
 obtain⟨k1,k2,O⟩:=nm_ok f s h;have E:=Nd_ge d;have T:=Ld_ge d;refine⟨E,?_,a0o _,?_,?_,?_⟩
 ·rw[fm_2 rfl];show s.b.length<=_;omega
 ·rw[wf_e];show(true&&vnm s.b)=true;rw[k2];rfl
 ·show nbE ⟨2,0,s,0,[]⟩;rw[nbE];exact⟨by omega,by rw[fc];trivial⟩
 rw[df_e];show(true&&(false||de (aO f) s.b)&&true)=true;rw[O];rfl
variable {a b c:ExpT} (ha:GE f d a) (hb:GE f d b) (hc:GE f d c)
include ha
theorem GE.idx{s:Str}(h:s∈abG):GE f (d+1) (mkE 3 0 s 0 [a]):=by
 obtain⟨k1,k2,E⟩:=ab_ok s h;refine⟨?_,?_,?_,?_,?_,?_⟩
 ·rw[nd_e];show 1+fV [a]<=_;rw[fV,fV,Nd];have:=ha.nd;omega
 ·rw[fm_3 rfl rfl];show((s.b++[91])++fmE a++[93]).length<=_
  simp only[a00,a01,a02,Ld];have:=ha.len;omega
 ·rw[dp_e];show iK [a]<=_;rw[iK,iK];have:=ha.dp;omega
 ·rw[wf_e];show(ey [a]&&vnm s.b)=true;rw[ey,ey,ha.wf,k2];rfl
 ·show nbE ⟨3,0,s,0,[a]⟩;rw[nbE,fc,fc];exact⟨by omega,ha.nb,trivial⟩
 rw[df_e];show(eO _ _ [a]&&true&&(false||de abG s.b))=true;rw[eO,eO,ha.df,E];rfl
theorem GE.un{o:Int}(h:o=20\/o=21):GE f (d+1) (mkE 4 0 dK o [a]):=by
 refine⟨?_,?_,?_,?_,?_,?_⟩
 ·rw[nd_e];show 1+fV [a]<=_;rw[fV,fV,Nd];have:=ha.nd;omega
 ·have:=ha.len;rcases h with rfl|rfl
  ·rw[fm_n rfl rfl rfl];show([45]++opF a true (fmE a)).length<=_
   have:=jC a true (fmE a);simp only[a00,a01,a02,Ld];omega
  rw[fm_t rfl rfl rfl];show([126]++opF a false (fmE a)).length<=_
  have:=jC a false (fmE a);simp only[a00,a01,a02,Ld];omega
 ·rw[dp_e];show iK [a]<=_;rw[iK,iK];have:=ha.dp;omega
 ·rw[wf_e];rcases h with rfl|rfl<;>(show(ey [a]&&true)=true;rw[ey,ey,ha.wf];rfl)
 ·show nbE ⟨4,0,dK,o,[a]⟩;rw[nbE,fc,fc];exact⟨by decide,ha.nb,trivial⟩
 rw[df_e];show(eO _ _ [a]&&true&&true)=true;rw[eO,eO,ha.df];rfl
include hb
theorem GE.bin{o:Int}(h:4<=o/\o<=18):GE f (d+1) (mkE 4 0 dK o [a,b]):=by
 refine⟨?_,?_,?_,?_,?_,?_⟩
 ·rw[nd_e];show 1+fV [a,b]<=_;rw[fV,fV,fV,Nd];have:=ha.nd;have:=hb.nd;omega
 ·have E:=ha.len;have O:=hb.len
  rw[fm_b rfl (show o≠20 by omega) (show o≠21 by omega) rfl];show((((opF a false (fmE a)++[32])++opX o)++[32])++opF b false (fmE b)).length<=_;have:=jC a false (fmE a);have:=jC b false (fmE b);have:=opX_le o
  simp only[a00,a01,a02,Ld];omega
 ·rw[dp_e];show iK [a,b]<=_;rw[iK,iK,iK];have:=ha.dp;have:=hb.dp;omega
 ·rw[wf_e];show(ey [a,b]&&(true&&(binO o||false)))=true
  rw[ey,ey,ey,ha.wf,hb.wf,show binO o=true by unfold binO;rw[decide_eq_true h.1,decide_eq_true h.2];rfl];rfl
 ·show nbE ⟨4,0,dK,o,[a,b]⟩;rw[nbE,fc,fc,fc];exact⟨by decide,ha.nb,hb.nb,trivial⟩
 rw[df_e];show(eO _ _ [a,b]&&true&&true)=true;rw[eO,eO,eO,ha.df,hb.df];rfl
include hc
theorem GE.cond:GE f (d+1) (mkE 5 0 dK 0 [a,b,c]):=by
 refine⟨?_,?_,?_,?_,?_,?_⟩
 ·rw[nd_e];show 1+fV [a,b,c]<=_;rw[fV,fV,fV,fV,Nd];have:=ha.nd;have:=hb.nd;have:=hc.nd;omega
 ·have E:=ha.len;have O:=hb.len;have T:=hc.len
  rw[fm_5 rfl rfl];show((((opF a false (fmE a)++[32,63,32])++opF b false (fmE b))++[32,58,32])++opF c false (fmE c)).length<=_;have:=jC a false (fmE a);have:=jC b false (fmE b);have:=jC c false (fmE c)
  simp only[a00,a01,a02,Ld];omega
 ·rw[dp_e];show iK [a,b,c]<=_;rw[iK,iK,iK,iK];have:=ha.dp;have:=hb.dp;have:=hc.dp;omega
 ·rw[wf_e];show(ey [a,b,c]&&true)=true;rw[ey,ey,ey,ey,ha.wf,hb.wf,hc.wf];rfl
 ·show nbE ⟨5,0,dK,0,[a,b,c]⟩;rw[nbE,fc,fc,fc,fc];exact⟨by decide,ha.nb,hb.nb,hc.nb,trivial⟩
 rw[df_e];show(eO _ _ [a,b,c]&&true&&true)=true;rw[eO,eO,eO,eO,ha.df,hb.df,hc.df];rfl
end
theorem leaf_ok{f n:Int}{d:Nat}{b:Bool}(h:in64 n):GE f d (kX f n b):=by
 unfold kX;split
 ·exact .var (nm_mem f n)
 exact .num (word_in h)
theorem iY{f:Int}: ∀(d:Nat) {r:RdT},InR r->GE f d (ad f d r).1/\(ad f d r).2.l<:+(ae r).l/\(ad f d r).2.n=r.n
 |0,r,h=>⟨leaf_ok (hd_in h),a1C _,rfl⟩
 |d+1,r,h=>by
  have hn:InR (ae r):=h.of (ej r);obtain⟨T,E,U⟩:=iY d hn;have E:=E.trans (ej _);obtain⟨Y,O,Z⟩:=iY d (hn.of E);have O:=(O.trans (ej _)).trans E;obtain⟨c1,c2,c3⟩:=iY d (hn.of O);have c2:=(c2.trans (ej _)).trans O;rw[ad];split
  ·exact⟨leaf_ok (hd_in h),a1C _,rfl⟩
  split
  ·exact⟨T.idx (ab_mem _ (Nat.mod_lt _ (by decide))),E,U⟩
  split
  ·exact⟨T.cond Y c1,c2,c3.trans (Z.trans U)⟩
  split
  ·refine⟨T.un ?_,E,U⟩;rcases Nat.mod_two_eq_zero_or_one (ao ((hdG r).tdiv 16) 1000) with e|e<;>rw[e]
   ·exact .inl rfl
   exact .inr rfl
  exact⟨T.bin Y (by have:=Nat.mod_lt (ao ((hdG r).tdiv 16) 1000) (show 0<15 by decide);omega),O,Z.trans U⟩
end Go.Proofs.Ytapgbjedgcpffaa.gp
